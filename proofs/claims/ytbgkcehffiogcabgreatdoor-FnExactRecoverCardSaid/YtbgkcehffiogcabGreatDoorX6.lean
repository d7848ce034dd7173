/-
  Texts of this proof, packed (@packed).
-/
import Derived.Test.YtbgkcehffiogcabGreatDoorX5
namespace Go.Proofs.YtbgkcehffiogcabGreatDoor
open Go.RowKit
set_option linter.unusedSimpArgs false
set_option linter.unusedVariables false
set_option maxHeartbeats 8000000
set_option maxRecDepth 100000
def cX (c:UInt8):List UInt8→List UInt8
 | []=> []
 |x::xs=>if x=c then []else x::cX c xs
def fH (c:UInt8):List UInt8→List UInt8
 | []=> []
 |x::xs=>if x=c then xs else fH c xs
theorem eH (c:UInt8): ∀(a b:List UInt8),c∉a→cX c (a++c::b)=a∧fH c (a++c::b)=b:=by
 intro a b;induction a with
 |nil=>intro _;simp[cX,fH]
 |cons x xs ih=>
  intro h;obtain⟨i1,i2⟩:=ih (fun q=>h (by simp[q]));have hx:x≠c:=fun q=>h (by simp[q])
  simp[cX,fH,hx,i1,i2]
theorem aD6 (c:UInt8): ∀(l:List UInt8),(aK c l)[0]? =some (cX c l):=by
 intro l;induction l with
 |nil=>rfl
 |cons x xs ih=>
  by_cases h:x=c
  ·rw[aK,if_pos h,cX,if_pos h]<;>rfl
  have e:aK c (x::xs)=match aK c xs with| []=> [[x]]|p::ps=>(x::p)::ps:=by rw[aK,if_neg h]<;>rfl
  rw[e,cX,if_neg h];cases hq:aK c xs with
  |nil=>exact absurd hq (eN c xs)
  |cons p ps=>rw[hq]at ih;simpa using ih
theorem pY (c:UInt8): ∀(l:List UInt8),(cX c l).length≤l.length∧(fH c l).length≤l.length:=by
 intro l;induction l with
 |nil=>simp[cX,fH]
 |cons x xs ih=>simp only[cX,fH];split<;>simp<;>omega
def jP (c:UInt8)(l:List UInt8):Option Nat:=if c∈l then some (cX c l).length else none
theorem uW (c:UInt8)(a b:List UInt8)(h:c∉a):jP c (a++c::b)=some a.length:=by unfold jP;rw[if_pos (by simp),(eH c a b h).1]
theorem sS (c:UInt8): ∀(l:List UInt8),c∈l→ ∃a b,l=a++c::b∧c∉a:=by
 intro l;induction l with
 |nil=>intro h;simp at h
 |cons x xs ih=>
  intro h;by_cases hx:x=c
  ·exact⟨[],xs,by simp[hx],by simp⟩
  obtain⟨a,b,e,ha⟩:=ih (by rcases aTj.1 h with h|h;exact absurd h.symm hx;exact h);exact⟨x::a,b,by simp[e],by simp[ha];exact fun q=>hx q.symm⟩
theorem fX {c:UInt8}{l:List UInt8}{e:Nat}(h:jP c l=some e):e<l.length∧l[e]? =some c∧c∉l.take e:=by
 unfold jP at h;split at h
 ·rename_i hm;obtain⟨a,b,rfl,ha⟩:=sS c l hm;rw[(eH c a b ha).1]at h;simp only[aU6]at h;subst h;simp[ha]
 simp at h
abbrev jT:=Int×Int×Int
def cQ (l:List UInt8):Option (Int×jT×Nat):=
 match jP 59 l with
 |none=>none
 |some e=>
  match bH 2 (cX 58 (cX 35 (l.take e))),cG (fH 58 (cX 35 (l.take e)))with
  |some n,some d=>if bU n d.1 d.2.1 d.2.2=l.take (e+1)then some (n,d,e+1)else none
  |_,_=>none
def gE (l:List UInt8):Option (Int×jT×Nat):=
 match jP 59 l with
 |none=>none
 |some e=>
  match aK 58 (cX 35 (l.take e))with
  | [f,r]=>match cG r with
    |some d=>if bU ((bH 4 f).getD (-1)) d.1 d.2.1 d.2.2=l.take (e+1)then some ((bH 4 f).getD (-1),d,e+1)else none
    |none=>none
  |_=>none
theorem aAy {k a b:Int}(h:fU k a b=true):(35:UInt8)∉aY k a b∧(58:UInt8)∉aY k a b∧(59:UInt8)∉aY k a b:=by
 have hn: ∀c:UInt8,c=35∨c=58∨c=59→c∉bX k:=by
  intro c hc;unfold bX
  repeat' split
  all_goals rcases hc with rfl|rfl|rfl<;>decide
 have hd: ∀c:UInt8,c=35∨c=58∨c=59→ ∀n,c∉Lib.decDigits n:=by intro c hc n;exact eW n c (by rcases hc with rfl|rfl|rfl<;>decide)
 have d: ∀c:UInt8,c=35∨c=58∨c=59→c∉aY k a b:=by
  intro c hc;have h1:=hn c hc;have h2:=hd c hc;have h3:c≠32:=by rcases hc with rfl|rfl|rfl<;>decide
  unfold aY;rw[if_pos h];split
  ·simp[h1,h2,h3]
  simp[h1,h2,h3]
 exact⟨d _ (by simp),d _ (by simp),d _ (by simp)⟩
theorem lA {n k a b:Int}(h:bU n k a b≠ []):1≤n∧n≤99∧fU k a b=true∧
  bU n k a b=Lib.decDigits n.toNat++58::aY k a b++35::Lib.decDigits (lZ (Lib.decDigits n.toNat++ [58]++aY k a b)).toNat++ [59]:=by
 unfold bU yV at h⊢;split at h
 ·rename_i hc;refine⟨hc.1,hc.2.1,rN hc.2.2,?_⟩;rw[if_pos hc];simp[jZ]
 simp at h
theorem aHn {n k a b:Int}(h:bU n k a b≠ []): ∃F:List UInt8,bU n k a b=F++ [59]∧(59:UInt8)∉F∧cX 35 F=Lib.decDigits n.toNat++58::aY k a b:=by
 obtain⟨h1,h2,ho,e⟩:=lA h;obtain⟨d1,d2,d3⟩:=aAy ho;refine⟨Lib.decDigits n.toNat++58::aY k a b++35::Lib.decDigits (lZ (Lib.decDigits n.toNat++ [58]++aY k a b)).toNat,e,?_,?_⟩
 ·have q1:=eW n.toNat 59 (by decide);have q2:=eW (lZ (Lib.decDigits n.toNat++ [58]++aY k a b)).toNat 59 (by decide);simp only[aTi,aTj,not_or];exact⟨⟨q1,by decide,d3⟩,by decide,q2⟩
 refine(eH 35 _ _ ?_).1;have q1:=eW n.toNat 35 (by decide);simp only[aTi,aTj,not_or];exact⟨q1,by decide,d1⟩
theorem aCe (m:Nat)(hm:2≤m)(a:m≤5){n:Int}(h0:1≤n)(h1:n≤99):bH m (Lib.decDigits n.toNat)=some n:=by
 have:n.toNat<10 ^ m:=by have:10 ^ 2≤10 ^ m:=aTg (by omega) hm;omega
 rw[jE m n.toNat this (by omega) a];congr 1;omega
theorem qU {n k a b:Int}(h:bU n k a b≠ [])(R:List UInt8):cQ (bU n k a b++R)=some (n,(k,a,b),(bU n k a b).length)∧
  gE (bU n k a b++R)=some (n,(k,a,b),(bU n k a b).length):=by
 obtain⟨h1,h2,ho,_⟩:=lA h;obtain⟨F,e,hF,hc⟩:=aHn h;obtain⟨d1,d2,d3⟩:=aAy ho;have hp:jP 59 (bU n k a b++R)=some F.length:=by rw[e];simp only[aTx,List.singleton_append];exact uW 59 F R hF
 have ht:(bU n k a b++R).take F.length=F:=by rw[e];simp
 have d:(bU n k a b++R).take (F.length+1)=bU n k a b:=by
  have:F.length+1=(bU n k a b).length:=by rw[e];simp
  rw[this];simp
 have hl:F.length+1=(bU n k a b).length:=by rw[e];simp
 have c:=eW n.toNat 58 (by decide);constructor
 ·unfold cQ;rw[hp];simp only[ht,d,hc];rw[(eH 58 _ _ c).1,(eH 58 _ _ c).2,aCe 2 (by omega) (by omega) h1 h2,oF ho];simp[hl]
 unfold gE;rw[hp];simp only[ht,d,hc];rw[hU 58 _ _ c,kP 58 _ d2];simp only[oF ho,aCe 4 (by omega) (by omega) h1 h2];simp[hl]
theorem aK8 {l:List UInt8}{e:Nat}(h:jP 59 l=some e):l.take (e+1)≠ []:=by have:=fX h;intro q;have:=congrArg List.length q;rw[aTq,List.length_nil]at this;omega
theorem qV {l:List UInt8}{n k a b:Int}{m:Nat}(h:cQ l=some (n,(k,a,b),m)):bU n k a b≠ []∧l=bU n k a b++l.drop m∧m=(bU n k a b).length:=by
 unfold cQ at h;split at h
 ·simp at h
 rename_i e hp;split at h
 ·rename_i n' d hn hd;split at h
  ·rename_i ht;simp only[aU6,aUk]at h;obtain⟨rfl,rfl,rfl⟩:=h;have:=fX hp;refine⟨by rw[ht];exact aK8 hp,by rw[ht];simp,by rw[ht];simp;omega⟩
  simp at h
 simp at h
theorem tT {l:List UInt8}{n k a b:Int}{m:Nat}(h:gE l=some (n,(k,a,b),m)):bU n k a b≠ []∧l=bU n k a b++l.drop m∧m=(bU n k a b).length:=by
 unfold gE at h;split at h
 ·simp at h
 rename_i e hp;split at h
 ·split at h
  ·split at h
   ·rename_i ht;simp only[aU6,aUk]at h;obtain⟨rfl,rfl,rfl⟩:=h;have:=fX hp;refine⟨by rw[ht];exact aK8 hp,by rw[ht];simp,by rw[ht];simp;omega⟩
   simp at h
  simp at h
 simp at h
theorem wF (l:List UInt8):gE l=cQ l:=by
 cases h:gE l with
 |some x=>obtain⟨n,⟨k,a,b⟩,m⟩:=x;obtain⟨h1,h2,h3⟩:=tT h;rw[h2,(qU h1 _).1,h3]
 |none=>
  cases h2:cQ l with
  |none=>rfl
  |some x=>obtain⟨n,⟨k,a,b⟩,m⟩:=x;obtain⟨q1,q2,q3⟩:=qV h2;rw[q2,(qU q1 _).2]at h;simp at h
section
open Go.Proofs.Tryz
def rdV:Option (Int×Int×Int)→Value
 |some (k,a,b)=> .tuple #[dL k a b,.bool true]
 |none=> .tuple #[dL 0 0 0,.bool false]
def nP (o:Option (Int×Int×Int))(w:World)(e:Ending)(w':World):Prop:=e= .returned (rdV o)∧Ext w w'
theorem aW {w:World}{base g n a:Nat}{e:TypeId}{ps:List (List UInt8)}(h:w.ownsRow base e 1 (.slice (some ⟨g,0,none⟩) n a) n (eQ ps))(j:Nat)(hj:j<n)(p:List UInt8)(hp:ps[j]? =some p):w.cell? ⟨g,j,none⟩=some (str p):=by rw[h.cellAt j (by omega)];simp[eQ,hp]
theorem vC (l:List UInt8)(w:World)(ps:List (List UInt8))(b:0<ps.length)(hl:ps.length<2∨2≤ps.length∧3<ps.length)
  (HS:Hid (∀w,Env w→U 109 #[str l,.string ⟨#[32]⟩] w fun e w'=> ∃v,e= .returned v∧w'.ownsRow w 9 1 v ps.length (eQ ps)∧Ext w w'))(HE:Hid (Env w)):
  U 83 #[str l] w (nP none w):=by
 rcases hl with hl|⟨h,hl⟩
 all_goals
  go_enter func83,ntmps83;go_wp2_with fail;refine(HS _ (HE.out.ext xE)).mono ?_;rintro e w1 ⟨v,rfl,a,h1⟩;obtain⟨g,c,rfl⟩:=aTc a b;obtain⟨d,f⟩:=h1.cells;clear a;go_wp2;exact bodyPost_ret (v:=rdV none) (by simp[results,results83,go_sem, *];rfl) rfl ⟨rfl,xE⟩
theorem aAh (l:List UInt8)(w:World)(p q:List UInt8)(n1:(p== [105,110])=false)(n2:(p== [112,97,121])=false)(n3:(p== [111,117,116])=false)(n4:(p== [119,97,105,116])=false)(n5:(p== [115,108,105,100,101])=false)
  (HS:Hid (∀w,Env w→U 109 #[str l,.string ⟨#[32]⟩] w fun e w'=> ∃v,e= .returned v∧w'.ownsRow w 9 1 v 2 (eQ [p,q])∧Ext w w'))(HE:Hid (Env w)):
  U 83 #[str l] w (nP none w):=by
 all_goals
  go_enter func83,ntmps83;go_wp2_with fail;refine(HS _ (HE.out.ext xE)).mono ?_;rintro e w1 ⟨v,rfl,a,h1⟩;obtain⟨g,b,rfl⟩:=aTc a (by omega);have e0:=aW a 0 (by omega) _ rfl;have hg:=(a.lt g rfl).2;obtain⟨c,d⟩:=h1.cells;have f:(w:Nat)<w1:=aT1 (by simp) h1.sz;clear a;go_wp2;exact bodyPost_ret (v:=rdV none) (by simp[results,results83,go_sem, *];rfl) rfl ⟨rfl,xE⟩
theorem aH0 (l:List UInt8)(w:World)(p q:List UInt8)(k:Int)(hk:p= [105,110]∧k=0∨p= [112,97,121]∧k=1∨p= [111,117,116]∧k=2∨p= [119,97,105,116]∧k=3∨p= [115,108,105,100,101]∧k=4)
  (HS:Hid (∀w,Env w→U 109 #[str l,.string ⟨#[32]⟩] w fun e w'=> ∃v,e= .returned v∧w'.ownsRow w 9 1 v 2 (eQ [p,q])∧Ext w w'))(HE:Hid (Env w))
  (HR:Hid (∀w,U 62 #[str q,I 4] w fun e w'=>e= .returned (.tuple #[(),.bool false])∧w=w')):
  U 83 #[str l] w (nP none w):=by
 rcases hk with⟨rfl,rfl⟩|⟨rfl,rfl⟩|⟨rfl,rfl⟩|⟨rfl,rfl⟩|⟨rfl,rfl⟩
 all_goals
  go_enter func83,ntmps83;go_wp2_with fail;refine(HS _ (HE.out.ext xE)).mono ?_;rintro e w1 ⟨v,rfl,a,h1⟩;obtain⟨g,b,rfl⟩:=aTc a (by omega);have e0:=aW a 0 (by omega) _ rfl;have e1:=aW a 1 (by omega) _ rfl;have hg:=(a.lt g rfl).2;obtain⟨c,d⟩:=h1.cells;have f:(w:Nat)<w1:=aT1 (by simp) h1.sz;clear a;go_wp2_with fail;refine(HR _).mono ?_;rintro e w2 ⟨rfl,rfl⟩;go_wp2;exact bodyPost_ret (v:=rdV none) (by simp[results,results83,go_sem, *];rfl) rfl ⟨rfl,xE⟩
theorem aAg (l:List UInt8)(w:World)(p q r:List UInt8)(n1:(p== [105,110])=false)(n2:(p== [112,97,121])=false)(n3:(p== [111,117,116])=false)(n4:(p== [119,97,105,116])=false)(n5:(p== [115,108,105,100,101])=false)
  (HS:Hid (∀w,Env w→U 109 #[str l,.string ⟨#[32]⟩] w fun e w'=> ∃v,e= .returned v∧w'.ownsRow w 9 1 v 3 (eQ [p,q,r])∧Ext w w'))(HE:Hid (Env w)):
  U 83 #[str l] w (nP none w):=by
 all_goals
  go_enter func83,ntmps83;go_wp2_with fail;refine(HS _ (HE.out.ext xE)).mono ?_;rintro e w1 ⟨v,rfl,a,h1⟩;obtain⟨g,b,rfl⟩:=aTc a (by omega);have e0:=aW a 0 (by omega) _ rfl;have hg:=(a.lt g rfl).2;obtain⟨c,d⟩:=h1.cells;have f:(w:Nat)<w1:=aT1 (by simp) h1.sz;clear a;go_wp2;exact bodyPost_ret (v:=rdV none) (by simp[results,results83,go_sem, *];rfl) rfl ⟨rfl,xE⟩
theorem aGz (l:List UInt8)(w:World)(p q r:List UInt8)(k:Int)(hk:p= [105,110]∧k=0∨p= [112,97,121]∧k=1∨p= [111,117,116]∧k=2∨p= [119,97,105,116]∧k=3∨p= [115,108,105,100,101]∧k=4)
  (HS:Hid (∀w,Env w→U 109 #[str l,.string ⟨#[32]⟩] w fun e w'=> ∃v,e= .returned v∧w'.ownsRow w 9 1 v 3 (eQ [p,q,r])∧Ext w w'))(HE:Hid (Env w))
  (HR:Hid (∀w,U 62 #[str q,I 4] w fun e w'=>e= .returned (.tuple #[(),.bool false])∧w=w')):
  U 83 #[str l] w (nP none w):=by
 rcases hk with⟨rfl,rfl⟩|⟨rfl,rfl⟩|⟨rfl,rfl⟩|⟨rfl,rfl⟩|⟨rfl,rfl⟩
 all_goals
  go_enter func83,ntmps83;go_wp2_with fail;refine(HS _ (HE.out.ext xE)).mono ?_;rintro e w1 ⟨v,rfl,a,h1⟩;obtain⟨g,b,rfl⟩:=aTc a (by omega);have e0:=aW a 0 (by omega) _ rfl;have e1:=aW a 1 (by omega) _ rfl;have hg:=(a.lt g rfl).2;obtain⟨c,d⟩:=h1.cells;have f:(w:Nat)<w1:=aT1 (by simp) h1.sz;clear a;go_wp2_with fail;refine(HR _).mono ?_;rintro e w2 ⟨rfl,rfl⟩;go_wp2;exact bodyPost_ret (v:=rdV none) (by simp[results,results83,go_sem, *];rfl) rfl ⟨rfl,xE⟩
theorem aGy (l:List UInt8)(w:World)(p q r:List UInt8)(k a:Int)(hk:p= [105,110]∧k=0∨p= [112,97,121]∧k=1∨p= [111,117,116]∧k=2∨p= [119,97,105,116]∧k=3∨p= [115,108,105,100,101]∧k=4)
  (HS:Hid (∀w,Env w→U 109 #[str l,.string ⟨#[32]⟩] w fun e w'=> ∃v,e= .returned v∧w'.ownsRow w 9 1 v 3 (eQ [p,q,r])∧Ext w w'))(HE:Hid (Env w))
  (HR:Hid (∀w,U 62 #[str q,I 4] w fun e w'=>e= .returned (.tuple #[a,.bool true])∧w=w'))
  (c:Hid (∀w,U 62 #[str r,I 4] w fun e w'=>e= .returned (.tuple #[(),.bool false])∧w=w')):
  U 83 #[str l] w (nP none w):=by
 rcases hk with⟨rfl,rfl⟩|⟨rfl,rfl⟩|⟨rfl,rfl⟩|⟨rfl,rfl⟩|⟨rfl,rfl⟩
 all_goals
  go_enter func83,ntmps83;go_wp2_with fail;refine(HS _ (HE.out.ext xE)).mono ?_;rintro e w1 ⟨v,rfl,b,h1⟩;obtain⟨g,d,rfl⟩:=aTc b (by omega);have e0:=aW b 0 (by omega) _ rfl;have e1:=aW b 1 (by omega) _ rfl;have e2:=aW b 2 (by omega) _ rfl;have hg:=(b.lt g rfl).2;obtain⟨f,h⟩:=h1.cells;have i:(w:Nat)<w1:=aT1 (by simp) h1.sz;clear b;go_wp2_with fail;refine(HR _).mono ?_;rintro e w2 ⟨rfl,rfl⟩;go_wp2_with fail;refine(c _).mono ?_;rintro e w2 ⟨rfl,rfl⟩;go_wp2;exact bodyPost_ret (v:=rdV none) (by simp[results,results83,go_sem, *];rfl) rfl ⟨rfl,xE⟩
theorem aEk (l:List UInt8)(w:World)(p q t:List UInt8)(k a:Int)(hk:p= [105,110]∧k=0∨p= [112,97,121]∧k=1∨p= [111,117,116]∧k=2∨p= [119,97,105,116]∧k=3∨p= [115,108,105,100,101]∧k=4)(ht:(t==l)=true)
  (HS:Hid (∀w,Env w→U 109 #[str l,.string ⟨#[32]⟩] w fun e w'=> ∃v,e= .returned v∧w'.ownsRow w 9 1 v 2 (eQ [p,q])∧Ext w w'))(HE:Hid (Env w))
  (HR:Hid (∀w,U 62 #[str q,I 4] w fun e w'=>e= .returned (.tuple #[a,.bool true])∧w=w'))
  (HD:Hid (∀w,Env w→U 124 #[dL k a 0] w (Z (str t) w))):
  U 83 #[str l] w (nP (some (k,a,0)) w):=by
 rcases hk with⟨rfl,rfl⟩|⟨rfl,rfl⟩|⟨rfl,rfl⟩|⟨rfl,rfl⟩|⟨rfl,rfl⟩
 all_goals
  go_enter func83,ntmps83;go_wp2_with fail;refine(HS _ (HE.out.ext xE)).mono ?_;rintro e w1 ⟨v,rfl,b,h1⟩;obtain⟨g,c,rfl⟩:=aTc b (by omega);have e0:=aW b 0 (by omega) _ rfl;have e1:=aW b 1 (by omega) _ rfl;have hg:=(b.lt g rfl).2;obtain⟨d,i⟩:=h1.cells;have n:(w:Nat)<w1:=aT1 (by simp) h1.sz;clear b;go_wp2_with fail;refine(HR _).mono ?_;rintro e w2 ⟨rfl,rfl⟩;go_wp2_with fail;refine Ω (HD _ (HE.out.ext xE)) fun w2 h2=>?_
  obtain⟨f,j⟩:=h2.cells;have hw:=(h1.alloc (.cells #[_,_,_] 76)).trans h2;obtain⟨h,m⟩:=hw.cells;go_wp2;exact bodyPost_ret (v:=rdV (some (_,a,0))) (by simp[results,results83,go_sem, *];rfl) rfl ⟨rfl,xE⟩
theorem aEm (l:List UInt8)(w:World)(p q t:List UInt8)(k a:Int)(hk:p= [105,110]∧k=0∨p= [112,97,121]∧k=1∨p= [111,117,116]∧k=2∨p= [119,97,105,116]∧k=3∨p= [115,108,105,100,101]∧k=4)(ht:(t==l)=false)
  (HS:Hid (∀w,Env w→U 109 #[str l,.string ⟨#[32]⟩] w fun e w'=> ∃v,e= .returned v∧w'.ownsRow w 9 1 v 2 (eQ [p,q])∧Ext w w'))(HE:Hid (Env w))
  (HR:Hid (∀w,U 62 #[str q,I 4] w fun e w'=>e= .returned (.tuple #[a,.bool true])∧w=w'))
  (HD:Hid (∀w,Env w→U 124 #[dL k a 0] w (Z (str t) w))):
  U 83 #[str l] w (nP (none) w):=by
 rcases hk with⟨rfl,rfl⟩|⟨rfl,rfl⟩|⟨rfl,rfl⟩|⟨rfl,rfl⟩|⟨rfl,rfl⟩
 all_goals
  go_enter func83,ntmps83;go_wp2_with fail;refine(HS _ (HE.out.ext xE)).mono ?_;rintro e w1 ⟨v,rfl,b,h1⟩;obtain⟨g,c,rfl⟩:=aTc b (by omega);have e0:=aW b 0 (by omega) _ rfl;have e1:=aW b 1 (by omega) _ rfl;have hg:=(b.lt g rfl).2;obtain⟨d,i⟩:=h1.cells;have n:(w:Nat)<w1:=aT1 (by simp) h1.sz;clear b;go_wp2_with fail;refine(HR _).mono ?_;rintro e w2 ⟨rfl,rfl⟩;go_wp2_with fail;refine Ω (HD _ (HE.out.ext xE)) fun w2 h2=>?_
  obtain⟨f,j⟩:=h2.cells;have hw:=(h1.alloc (.cells #[_,_,_] 76)).trans h2;obtain⟨h,m⟩:=hw.cells;go_wp2;exact bodyPost_ret (v:=rdV none) (by simp[results,results83,go_sem, *];rfl) rfl ⟨rfl,xE⟩
theorem aEj (l:List UInt8)(w:World)(p q r t:List UInt8)(k a b:Int)(hk:p= [105,110]∧k=0∨p= [112,97,121]∧k=1∨p= [111,117,116]∧k=2∨p= [119,97,105,116]∧k=3∨p= [115,108,105,100,101]∧k=4)(ht:(t==l)=true)
  (HS:Hid (∀w,Env w→U 109 #[str l,.string ⟨#[32]⟩] w fun e w'=> ∃v,e= .returned v∧w'.ownsRow w 9 1 v 3 (eQ [p,q,r])∧Ext w w'))(HE:Hid (Env w))
  (HR:Hid (∀w,U 62 #[str q,I 4] w fun e w'=>e= .returned (.tuple #[a,.bool true])∧w=w'))
  (d:Hid (∀w,U 62 #[str r,I 4] w fun e w'=>e= .returned (.tuple #[b,.bool true])∧w=w'))
  (HD:Hid (∀w,Env w→U 124 #[dL k a b] w (Z (str t) w))):
  U 83 #[str l] w (nP (some (k,a,b)) w):=by
 rcases hk with⟨rfl,rfl⟩|⟨rfl,rfl⟩|⟨rfl,rfl⟩|⟨rfl,rfl⟩|⟨rfl,rfl⟩
 all_goals
  go_enter func83,ntmps83;go_wp2_with fail;refine(HS _ (HE.out.ext xE)).mono ?_;rintro e w1 ⟨v,rfl,c,h1⟩;obtain⟨g,f,rfl⟩:=aTc c (by omega);have e0:=aW c 0 (by omega) _ rfl;have e1:=aW c 1 (by omega) _ rfl;have e2:=aW c 2 (by omega) _ rfl;have hg:=(c.lt g rfl).2;obtain⟨h,m⟩:=h1.cells;have s:(w:Nat)<w1:=aT1 (by simp) h1.sz;clear c;go_wp2_with fail;refine(HR _).mono ?_;rintro e w2 ⟨rfl,rfl⟩;go_wp2_with fail;refine(d _).mono ?_;rintro e w2 ⟨rfl,rfl⟩;go_wp2_with fail;refine Ω (HD _ (HE.out.ext xE)) fun w2 h2=>?_
  obtain⟨i,n⟩:=h2.cells;have hw:=(h1.alloc (.cells #[_,_,_] 76)).trans h2;obtain⟨j,o⟩:=hw.cells;go_wp2;exact bodyPost_ret (v:=rdV (some (_,a,b))) (by simp[results,results83,go_sem, *];rfl) rfl ⟨rfl,xE⟩
theorem aEl (l:List UInt8)(w:World)(p q r t:List UInt8)(k a b:Int)(hk:p= [105,110]∧k=0∨p= [112,97,121]∧k=1∨p= [111,117,116]∧k=2∨p= [119,97,105,116]∧k=3∨p= [115,108,105,100,101]∧k=4)(ht:(t==l)=false)
  (HS:Hid (∀w,Env w→U 109 #[str l,.string ⟨#[32]⟩] w fun e w'=> ∃v,e= .returned v∧w'.ownsRow w 9 1 v 3 (eQ [p,q,r])∧Ext w w'))(HE:Hid (Env w))
  (HR:Hid (∀w,U 62 #[str q,I 4] w fun e w'=>e= .returned (.tuple #[a,.bool true])∧w=w'))
  (d:Hid (∀w,U 62 #[str r,I 4] w fun e w'=>e= .returned (.tuple #[b,.bool true])∧w=w'))
  (HD:Hid (∀w,Env w→U 124 #[dL k a b] w (Z (str t) w))):
  U 83 #[str l] w (nP (none) w):=by
 rcases hk with⟨rfl,rfl⟩|⟨rfl,rfl⟩|⟨rfl,rfl⟩|⟨rfl,rfl⟩|⟨rfl,rfl⟩
 all_goals
  go_enter func83,ntmps83;go_wp2_with fail;refine(HS _ (HE.out.ext xE)).mono ?_;rintro e w1 ⟨v,rfl,c,h1⟩;obtain⟨g,f,rfl⟩:=aTc c (by omega);have e0:=aW c 0 (by omega) _ rfl;have e1:=aW c 1 (by omega) _ rfl;have e2:=aW c 2 (by omega) _ rfl;have hg:=(c.lt g rfl).2;obtain⟨h,m⟩:=h1.cells;have s:(w:Nat)<w1:=aT1 (by simp) h1.sz;clear c;go_wp2_with fail;refine(HR _).mono ?_;rintro e w2 ⟨rfl,rfl⟩;go_wp2_with fail;refine(d _).mono ?_;rintro e w2 ⟨rfl,rfl⟩;go_wp2_with fail;refine Ω (HD _ (HE.out.ext xE)) fun w2 h2=>?_
  obtain⟨i,n⟩:=h2.cells;have hw:=(h1.alloc (.cells #[_,_,_] 76)).trans h2;obtain⟨j,o⟩:=hw.cells;go_wp2;exact bodyPost_ret (v:=rdV none) (by simp[results,results83,go_sem, *];rfl) rfl ⟨rfl,xE⟩
end
theorem eC (c:UInt8): ∀(l:List UInt8),(∀p∈aK c l,p.length≤l.length)∧(aK c l).length≤l.length+1:=by
 intro l;induction l with
 |nil=>simp[aK]
 |cons x xs ih=>
  by_cases h:x=c
  ·have e:aK c (x::xs)= []::aK c xs:=by rw[aK,if_pos h]
   rw[e];refine⟨fun p hp=> ?_,by simp;exact ih.2⟩;rcases aTj.1 hp with rfl|hp
   ·simp
   have:=ih.1 p hp;simp;omega
  have e:aK c (x::xs)=match aK c xs with| []=> [[x]]|p::ps=>(x::p)::ps:=by rw[aK,if_neg h]<;>rfl
  rw[e];cases hq:aK c xs with
  |nil=>exact absurd hq (eN c xs)
  |cons q qs=>
   rw[hq]at ih;refine⟨fun p hp=> ?_,by have:=ih.2;simp at this⊢;omega⟩;rcases aTj.1 hp with rfl|hp
   ·have:=ih.1 q (by simp);simp;omega
   have:=ih.1 p (by simp[hp]);simp;omega
theorem rC {p:List UInt8}(h:jU p=none):(p== [105,110])=false∧(p== [112,97,121])=false∧(p== [111,117,116])=false∧(p== [119,97,105,116])=false∧(p== [115,108,105,100,101])=false:=by
 unfold jU at h
 repeat' split at h
 all_goals simp_all
theorem fY {p:List UInt8}{k:Int}(h:jU p=some k):p= [105,110]∧k=0∨p= [112,97,121]∧k=1∨p= [111,117,116]∧k=2∨p= [119,97,105,116]∧k=3∨p= [115,108,105,100,101]∧k=4:=by
 unfold jU at h
 repeat' split at h
 all_goals simp_all
theorem mB (q:List UInt8)(m:Nat)(hm:1≤m∧m≤5)(hq:q.length≤maxLen)(w:World):U 62 #[str q,m] w fun e w'=>e= .returned (.tuple #[((bH m q).getD 0:Int),.bool (bH m q).isSome])∧w=w':=
 zV ⟨q.toArray⟩ m w hm (by simpa[ByteArray.size]using hq)
theorem aEr (l:List UInt8)(w:World)(hs:l.length<4294967281)(hE:Env w):U 83 #[str l] w (nP (cG l) w):=by
 have hS: ∀w,Env w→U 109 #[str l,.string ⟨#[32]⟩] w fun e w'=> ∃v,e= .returned v∧w'.ownsRow w 9 1 v (aK 32 l).length (eQ (aK 32 l))∧Ext w w':=
  fun w hE=>rZ ⟨l.toArray⟩ 32 w (by simpa[ByteArray.size]using hs) hE
 have d:=eC 32 l;have c: ∀q∈aK 32 l,∀o,bH 4 q=o→Hid (∀w,U 62 #[str q,I 4] w fun e w'=>e= .returned (.tuple #[(o.getD 0:Int),.bool o.isSome])∧w=w'):=by intro q hq o ho w;subst ho;exact mB q 4 (by omega) (by have:=d.1 q hq;unfold maxLen;omega) w
 rcases hc:aK 32 l with _|⟨p,_|⟨q,_|⟨r,_|⟨x,rest⟩⟩⟩⟩
 ·exact absurd hc (eN 32 l)
 ·rw[hc]at hS;have e:cG l=none:=by unfold cG;rw[hc]
  rw[e];exact vC l w [p] (by simp) (.inl (by simp)) hS hE
 ·rw[hc]at hS c;cases hk:jU p with
  |none=>
   obtain⟨n1,n2,n3,n4,n5⟩:=rC hk;have e:cG l=none:=by unfold cG;rw[hc];simp[hk]
   rw[e];exact aAh l w p q n1 n2 n3 n4 n5 hS hE
  |some k=>
   cases hq:bH 4 q with
   |none=>
    have e:cG l=none:=by unfold cG;rw[hc];simp[hk,hq]
    rw[e];exact aH0 l w p q k (fY hk) hS hE (c q (by simp) _ hq)
   |some a=>
    by_cases ht:aY k a 0=l
    ·skip;have e:cG l=some (k,a,0):=by unfold cG;rw[hc];simp[hk,hq,ht]
     rw[e];exact aEk l w p q (aY k a 0) k a (fY hk) (by simp[ht]) hS hE (c q (by simp) _ hq) (fun w h=>oV k a 0 w h)
    skip;have e:cG l=none:=by unfold cG;rw[hc];simp[hk,hq,ht]
    rw[e];exact aEm l w p q (aY k a 0) k a (fY hk) (by simp[ht]) hS hE (c q (by simp) _ hq) (fun w h=>oV k a 0 w h)
 ·rw[hc]at hS c;cases hk:jU p with
  |none=>
   obtain⟨n1,n2,n3,n4,n5⟩:=rC hk;have e:cG l=none:=by unfold cG;rw[hc];simp[hk]
   rw[e];exact aAg l w p q r n1 n2 n3 n4 n5 hS hE
  |some k=>
   cases hq:bH 4 q with
   |none=>
    have e:cG l=none:=by unfold cG;rw[hc];simp[hk,hq]
    rw[e];exact aGz l w p q r k (fY hk) hS hE (c q (by simp) _ hq)
   |some a=>
    cases hr:bH 4 r with
    |none=>
     have e:cG l=none:=by unfold cG;rw[hc];simp[hk,hq,hr]
     rw[e];exact aGy l w p q r k a (fY hk) hS hE (c q (by simp) _ hq) (c r (by simp) _ hr)
    |some b=>
     by_cases ht:aY k a b=l
     ·skip;have e:cG l=some (k,a,b):=by unfold cG;rw[hc];simp[hk,hq,hr,ht]
      rw[e];exact aEj l w p q r (aY k a b) k a b (fY hk) (by simp[ht]) hS hE (c q (by simp) _ hq) (c r (by simp) _ hr) (fun w h=>oV k a b w h)
     skip;have e:cG l=none:=by unfold cG;rw[hc];simp[hk,hq,hr,ht]
     rw[e];exact aEl l w p q r (aY k a b) k a b (fY hk) (by simp[ht]) hS hE (c q (by simp) _ hq) (c r (by simp) _ hr) (fun w h=>oV k a b w h)
 rw[hc]at hS;have e:cG l=none:=by unfold cG;rw[hc]
 rw[e];exact vC l w (p::q::r::x::rest) (by simp) (.inr (by simp)) hS hE
section
open Go.Proofs.Tryz
theorem yC (c:UInt8): ∀l:List UInt8,c∉l→cX c l=l∧fH c l= []:=by
 intro l;induction l with
 |nil=>intro _;exact⟨rfl,rfl⟩
 |cons x xs ih=>
  intro h;have hx:x≠c:=fun q=>h (by simp[q])
  obtain⟨i1,i2⟩:=ih (fun q=>h (by simp[q]));simp[cX,fH,hx,i1,i2]
theorem aGu (c:UInt8)(a b:List UInt8)(h:c∉a):Lib.index (a++c::b) [c]=a.length:=by
 rcases sN c (a++c::b)with⟨h1,h2,h3⟩|⟨i,h1,h2,h3,h4⟩
 ·exact absurd (by simp) h3
 have e:=aD6 c (a++c::b);rw[h3,(eH c a b h).1]at e;simp only[aVj,aU6]at e;have:=congrArg List.length e;simp at this h2;rw[h1];omega
theorem aS3 (c:UInt8)(l:List UInt8):(Lib.cut l [c]).1=cX c l∧(Lib.cut l [c]).2.1=fH c l:=by
 by_cases h:c∈l
 ·obtain⟨a,b,rfl,ha⟩:=sS c l h;unfold Lib.cut;rw[aGu c a b ha,if_pos (by omega),(eH c a b ha).1,(eH c a b ha).2];simp
 have e:Lib.index l [c]= -1:=by
  rcases sN c l with⟨h1,_⟩|⟨i,h1,h2,h3,h4⟩
  ·exact h1
  exfalso;have e2:=kP c l h;rw[h3]at e2;have:=congrArg List.length e2;simp at this;exact absurd this (eN c _)
 unfold Lib.cut;rw[e,if_neg (by omega),(yC c l h).1,(yC c l h).2];exact⟨rfl,rfl⟩
theorem aBp (c:UInt8)(l:List UInt8):Lib.indexByte l c=match jP c l with|some e=>(e:Int)|none=> -1:=by
 by_cases h:c∈l
 ·obtain⟨a,b,rfl,ha⟩:=sS c l h;rw[uW c a b ha];have hg:=Lib.indexByte_ge (a++c::b) c;by_cases h1:Lib.indexByte (a++c::b) c= -1
  ·exact absurd (by simp) (Lib.indexByte_none h1 a.length)
  obtain⟨o,ho⟩:=aU8 (show 0≤Lib.indexByte (a++c::b) c by omega);obtain⟨s1,s2⟩:=Lib.indexByte_some ho;have:o=a.length:=by
   rcases Nat.lt_trichotomy o a.length with q|q|q
   ·rw[aTm q]at s1;exact absurd (aT4 s1) ha
   ·exact q
   exact absurd (by simp) (s2 a.length q)
  rw[ho,this]
 have e:jP c l=none:=by unfold jP;rw[if_neg h]
 rw[e];by_cases h1:Lib.indexByte l c= -1
 ·exact h1
 have hg:=Lib.indexByte_ge l c;obtain⟨o,ho⟩:=aU8 (show 0≤Lib.indexByte l c by omega);exact absurd (aT4 (Lib.indexByte_some ho).1) h
theorem aB0 (l:List UInt8)(c:UInt8)(w:World)(hs:l.length<4294967281)(hE:Env w):
  U 61 #[str l,.string ⟨#[c]⟩] w (Z (.tuple #[str (cX c l),str (fH c l),.bool (Lib.cut l [c]).2.2]) w):=by
 obtain⟨m,hm⟩:=hE.mx;refine(Tryz.strings_Cut ⟨l.toArray⟩ ⟨#[c]⟩ m w (by simpa[ByteArray.size]using hs) hm).mono ?_;rintro e w' ⟨rfl,n,rfl⟩;obtain⟨c1,c2⟩:=aS3 c l;refine⟨?_,(Ext.refl _).drewN _⟩;show Ending.returned (.tuple #[.string ⟨(Lib.cut l [c]).1.toArray⟩,.string ⟨(Lib.cut l [c]).2.1.toArray⟩,.bool (Lib.cut l [c]).2.2])=_;rw[c1,c2]
theorem lX (n k a b:Int):(bU n k a b).length≤200:=by
 by_cases h:bU n k a b= []
 ·rw[h];simp
 obtain⟨h1,h2,ho,e⟩:=lA h;rw[e];have e1:=cI n.toNat (by omega);have e2:=lB k a b;have e3:=uL (Lib.decDigits n.toNat++ [58]++aY k a b);simp only[aTa,aU1,List.length_nil]at e3⊢;omega
def reV:Option (Int×jT×Nat)→Value
 |some (n,(k,a,b),m)=> .tuple #[n,dL k a b,m]
 |none=> .tuple #[(),dL 0 0 0,()]
def mN (o:Option (Int×jT×Nat))(w:World)(e:Ending)(w':World):Prop:=e= .returned (reV o)∧Ext w w'
theorem aAi (l:List UInt8)(w:World)(HI:Hid (∀w,U 82 #[str l,.int .u8 59] w fun e w'=>e= .returned (I (-1))∧w=w')):
  U 49 #[str l] w (mN none w):=by
 go_enter func49,ntmps49;go_wp2_with fail;refine(HI _).mono ?_;rintro e w1 ⟨rfl,rfl⟩;go_wp2;exact bodyPost_ret (v:=reV none) (by simp[results,results49,go_sem];rfl) rfl ⟨rfl,xE⟩
theorem aBs (l b b2 f r:List UInt8)(e:Nat)(x y:Bool)(w:World)(hl:l.length≤4294967280)(d:e<l.length)
  (HI:Hid (∀w,U 82 #[str l,.int .u8 59] w fun q w'=>q= .returned (I e)∧w=w'))
  (HC:Hid (∀w,Env w→U 61 #[.string ((⟨l.toArray⟩:ByteArray).extract 0 e),.string ⟨#[35]⟩] w (Z (.tuple #[str b,str b2,.bool x]) w)))
  (a:Hid (∀w,Env w→U 61 #[str b,.string ⟨#[58]⟩] w (Z (.tuple #[str f,str r,.bool y]) w)))
  (HN:Hid (∀w,U 62 #[str f,I 2] w fun q w'=>q= .returned (.tuple #[(),.bool false])∧w=w'))(HE:Hid (Env w)):
  U 49 #[str l] w (mN none w):=by
 go_enter func49,ntmps49;go_wp2_with fail;refine(HI _).mono ?_;rintro q w1 ⟨rfl,rfl⟩;go_wp2_with fail;refine Ω (HC _ (HE.out.ext xE)) fun w1 h1=>?_
 go_wp2_with fail;refine Ω (a _ (HE.out.ext xE)) fun w2 h2=>?_
 replace h2:=h1.trans h2;clear h1;obtain⟨c,g⟩:=h2.cells;go_wp2_with fail;refine(HN _).mono ?_;rintro q w3 ⟨rfl,rfl⟩;go_wp2;exact bodyPost_ret (v:=reV none) (by simp[results,results49,go_sem, *];rfl) rfl ⟨rfl,xE⟩
theorem aAj (l b b2 f r:List UInt8)(e:Nat)(n:Int)(x y:Bool)(w:World)(hl:l.length≤4294967280)(d:e<l.length)
  (HI:Hid (∀w,U 82 #[str l,.int .u8 59] w fun q w'=>q= .returned (I e)∧w=w'))
  (HC:Hid (∀w,Env w→U 61 #[.string ((⟨l.toArray⟩:ByteArray).extract 0 e),.string ⟨#[35]⟩] w (Z (.tuple #[str b,str b2,.bool x]) w)))
  (a:Hid (∀w,Env w→U 61 #[str b,.string ⟨#[58]⟩] w (Z (.tuple #[str f,str r,.bool y]) w)))
  (HN:Hid (∀w,U 62 #[str f,I 2] w fun q w'=>q= .returned (.tuple #[n,.bool true])∧w=w'))
  (HR:Hid (∀w,Env w→U 83 #[str r] w (Z (.tuple #[dL 0 0 0,.bool false]) w)))(HE:Hid (Env w)):
  U 49 #[str l] w (mN none w):=by
 go_enter func49,ntmps49;go_wp2_with fail;refine(HI _).mono ?_;rintro q w1 ⟨rfl,rfl⟩;go_wp2_with fail;refine Ω (HC _ (HE.out.ext xE)) fun w1 h1=>?_
 go_wp2_with fail;refine Ω (a _ (HE.out.ext xE)) fun w2 h2=>?_
 replace h2:=h1.trans h2;clear h1;go_wp2_with fail;refine(HN _).mono ?_;rintro q w3 ⟨rfl,rfl⟩;go_wp2_with fail;refine Ω (HR _ (HE.out.ext xE)) fun w3 h3=>?_
 replace h3:=h2.trans h3;clear h2;obtain⟨c,g⟩:=h3.cells;have h:(w:Nat)<w3:=aT1 (by simp) h3.sz;go_wp2;go_quiet (fail);go_wp2;exact bodyPost_ret (v:=reV none) (by simp[results,results49,go_sem, *];rfl) rfl ⟨rfl,xE⟩
theorem aEq (l b b2 f r:List UInt8)(e:Nat)(n k a b0:Int)(t:List UInt8)(x y:Bool)(w:World)(hl:l.length≤4294967280)(j:e<l.length)
  (HI:Hid (∀w,U 82 #[str l,.int .u8 59] w fun q w'=>q= .returned (I e)∧w=w'))
  (HC:Hid (∀w,Env w→U 61 #[.string ((⟨l.toArray⟩:ByteArray).extract 0 e),.string ⟨#[35]⟩] w (Z (.tuple #[str b,str b2,.bool x]) w)))
  (c:Hid (∀w,Env w→U 61 #[str b,.string ⟨#[58]⟩] w (Z (.tuple #[str f,str r,.bool y]) w)))
  (HN:Hid (∀w,U 62 #[str f,I 2] w fun q w'=>q= .returned (.tuple #[n,.bool true])∧w=w'))
  (HR:Hid (∀w,Env w→U 83 #[str r] w (Z (.tuple #[dL k a b0,.bool true]) w)))(HE:Hid (Env w))
  (HT:Hid (∀w,Env w→U 84 #[n,dL k a b0] w (Z (str t) w)))(p:t.length≤200)(d:(t==((⟨l.toArray⟩:ByteArray).extract 0 (e+1)).toList)=false):
  U 49 #[str l] w (mN none w):=by
 go_enter func49,ntmps49;go_wp2_with fail;refine(HI _).mono ?_;rintro q w1 ⟨rfl,rfl⟩;go_wp2_with fail;refine Ω (HC _ (HE.out.ext xE)) fun w1 h1=>?_
 go_wp2_with fail;refine Ω (c _ (HE.out.ext xE)) fun w2 h2=>?_
 replace h2:=h1.trans h2;clear h1;go_wp2_with fail;refine(HN _).mono ?_;rintro q w3 ⟨rfl,rfl⟩;go_wp2_with fail;refine Ω (HR _ (HE.out.ext xE)) fun w3 h3=>?_
 replace h3:=h2.trans h3;clear h2;obtain⟨g,m⟩:=h3.cells;have s:(w:Nat)<w3:=aT1 (by simp) h3.sz;go_wp2;have q1:IntKind.i64.wrap ((e:Int)+1)=(e:Int)+1:=aT5 _ (by omega);have q2:0≤(e:Int)+1:=by omega
 have q3:((e:Int)+1).toNat=e+1:=by omega
 have q4:(e:Int)+1≤(l.length:Int):=by omega
 go_region_held3 (fun w'=>w'.cell? ⟨w3,0,none⟩=some (I k)∧w'.cell? ⟨w3,1,none⟩=some (I a)∧w'.cell? ⟨w3,2,none⟩=some (I b0)) (go_keep)
  ((go_at_call 84;refine Ω (HT _ (HE.out.ext xE)) fun w4 h4=>?_;(try replace h4:=h4.of_drew);have i:=h4.cells.1))
 clear q1 q2 q3 q4;replace h4:=(h3.alloc (.cells #[k,a,b0] 76)).trans h4;obtain⟨h,o⟩:=h4.cells;go_wp2;exact bodyPost_ret (v:=reV none) (by simp[results,results49,go_sem, *];rfl) rfl ⟨rfl,xE⟩
theorem aEp (l b b2 f r:List UInt8)(e:Nat)(n k a b0:Int)(t:List UInt8)(x y:Bool)(w:World)(hl:l.length≤4294967280)(j:e<l.length)
  (HI:Hid (∀w,U 82 #[str l,.int .u8 59] w fun q w'=>q= .returned (I e)∧w=w'))
  (HC:Hid (∀w,Env w→U 61 #[.string ((⟨l.toArray⟩:ByteArray).extract 0 e),.string ⟨#[35]⟩] w (Z (.tuple #[str b,str b2,.bool x]) w)))
  (c:Hid (∀w,Env w→U 61 #[str b,.string ⟨#[58]⟩] w (Z (.tuple #[str f,str r,.bool y]) w)))
  (HN:Hid (∀w,U 62 #[str f,I 2] w fun q w'=>q= .returned (.tuple #[n,.bool true])∧w=w'))
  (HR:Hid (∀w,Env w→U 83 #[str r] w (Z (.tuple #[dL k a b0,.bool true]) w)))(HE:Hid (Env w))
  (HT:Hid (∀w,Env w→U 84 #[n,dL k a b0] w (Z (str t) w)))(p:t.length≤200)(d:(t==((⟨l.toArray⟩:ByteArray).extract 0 (e+1)).toList)=true):
  U 49 #[str l] w (mN (some (n,(k,a,b0),e+1)) w):=by
 go_enter func49,ntmps49;go_wp2_with fail;refine(HI _).mono ?_;rintro q w1 ⟨rfl,rfl⟩;go_wp2_with fail;refine Ω (HC _ (HE.out.ext xE)) fun w1 h1=>?_
 go_wp2_with fail;refine Ω (c _ (HE.out.ext xE)) fun w2 h2=>?_
 replace h2:=h1.trans h2;clear h1;go_wp2_with fail;refine(HN _).mono ?_;rintro q w3 ⟨rfl,rfl⟩;go_wp2_with fail;refine Ω (HR _ (HE.out.ext xE)) fun w3 h3=>?_
 replace h3:=h2.trans h3;clear h2;obtain⟨g,m⟩:=h3.cells;have s:(w:Nat)<w3:=aT1 (by simp) h3.sz;go_wp2;have q1:IntKind.i64.wrap ((e:Int)+1)=(e:Int)+1:=aT5 _ (by omega);have q2:0≤(e:Int)+1:=by omega
 have q3:((e:Int)+1).toNat=e+1:=by omega
 have q4:(e:Int)+1≤(l.length:Int):=by omega
 go_region_held3 (fun w'=>w'.cell? ⟨w3,0,none⟩=some (I k)∧w'.cell? ⟨w3,1,none⟩=some (I a)∧w'.cell? ⟨w3,2,none⟩=some (I b0)) (go_keep)
  ((go_at_call 84;refine Ω (HT _ (HE.out.ext xE)) fun w4 h4=>?_;(try replace h4:=h4.of_drew);have i:=h4.cells.1))
 clear q1 q2 q3 q4;replace h4:=(h3.alloc (.cells #[k,a,b0] 76)).trans h4;obtain⟨h,o⟩:=h4.cells;go_wp2;go_region;all_goals go_wp2
 all_goals exact bodyPost_ret (v:=reV (some (n,(k,a,b0),e+1))) (by simp[results,results49,go_sem, *];rfl) rfl ⟨rfl,xE⟩
theorem pW (l:List UInt8)(n:Nat):(((⟨l.toArray⟩:ByteArray).extract 0 n).toList)=l.take n:=by rw[Lib.toList_data,Lib.extract_data];simp
theorem aF8 (l:List UInt8)(n:Nat):Value.string ((⟨l.toArray⟩:ByteArray).extract 0 n)=str (l.take n):=by rw[zB,←Lib.toList_data,pW]
theorem aBr (l:List UInt8)(w:World)(hs:l.length≤4294967280)(hE:Env w):U 49 #[str l] w (mN (cQ l) w):=by
 have hI: ∀w,U 82 #[str l,.int .u8 59] w fun q w'=>q= .returned (I (match jP 59 l with|some e=>(e:Int)|none=> -1))∧w=w':=by intro w;refine(Tryz.strings_IndexByte ⟨l.toArray⟩ 59 w).mono ?_;rintro q w' ⟨rfl,rfl⟩;exact⟨by rw[←aBp];rfl,rfl⟩
 unfold cQ;cases hp:jP 59 l with
 |none=>rw[hp]at hI;exact aAi l w hI
 |some e=>
  rw[hp]at hI;have f:=(fX hp).1;simp only;have g:=(pY 35 (l.take e)).1;have j:(l.take e).length≤l.length:=List.length_take_le' _ _;obtain⟨x,hC⟩: ∃x,∀w,Env w→U 61 #[.string ((⟨l.toArray⟩:ByteArray).extract 0 e),.string ⟨#[35]⟩] w (Z (.tuple #[str (cX 35 (l.take e)),str (fH 35 (l.take e)),.bool x]) w):=by rw[aF8];refine⟨(Lib.cut (l.take e) [35]).2.2,fun w hE=>aB0 _ 35 w (by omega) hE⟩
  obtain⟨y,c⟩: ∃y,∀w,Env w→U 61 #[str (cX 35 (l.take e)),.string ⟨#[58]⟩] w (Z (.tuple #[str (cX 58 (cX 35 (l.take e))),str (fH 58 (cX 35 (l.take e))),.bool y]) w):=
   ⟨_,fun w hE=>aB0 _ 58 w (by omega) hE⟩
  generalize hb:cX 35 (l.take e)=b at*;have h:=(pY 58 b).1;have i:=(pY 58 b).2;have hN: ∀o,bH 2 (cX 58 b)=o→ ∀w,U 62 #[str (cX 58 b),I 2] w fun q w'=>q= .returned (.tuple #[(o.getD 0:Int),.bool o.isSome])∧w=w':=by intro o ho w;subst ho;exact mB _ 2 (by omega) (by unfold maxLen;omega) w
  have hR: ∀o,cG (fH 58 b)=o→ ∀w,Env w→U 83 #[str (fH 58 b)] w (Z (rdV o) w):=by intro o ho w hE;subst ho;exact aEr _ w (by omega) hE
  cases hn:bH 2 (cX 58 b)with
  |none=>exact aBs l b _ _ _ e x y w hs f hI hC c (hN _ hn) hE
  |some n=>
   cases hd:cG (fH 58 b)with
   |none=>exact aAj l b _ _ _ e n x y w hs f hI hC c (hN _ hn) (hR _ hd) hE
   |some d=>
    obtain⟨k,a,b0⟩:=d;have hT: ∀w,Env w→U 84 #[n,dL k a b0] w (Z (str (bU n k a b0)) w):=fun w hE=>aMp n k a b0 w hE
    by_cases ht:bU n k a b0=l.take (e+1)
    ·simp only[ht,if_true];exact aEp l b _ _ _ e n k a b0 _ x y w hs f hI hC c (hN _ hn) (hR _ hd) hE hT (lX n k a b0) (by rw[pW,ht];simp)
    simp only[ht,if_false];exact aEq l b _ _ _ e n k a b0 _ x y w hs f hI hC c (hN _ hn) (hR _ hd) hE hT (lX n k a b0) (by rw[pW];simpa using ht)
end
/-! ### slices of structs -/
theorem Rd.at {α:Type}{f:α→List Value}{w:World}{b c n d sz:Nat}{xs:List α}(hf: ∀a,(f a).length=sz)(h:Rd w (.slice (some ⟨b,c,none⟩) n d) n sz (xs.flatMap f)){k:Nat}{a:α}(hk:xs[k]? =some a) (hn:xs.length=n) (j:Nat) (hj:j<sz):
  w.cell? ⟨b,c+k*sz+j,none⟩=(f a)[j]? :=by
 rcases h.2 with⟨h1,_⟩|⟨b',off',cap',h1,_,_,_,h2⟩
 ·simp at h1
 simp only[Value.slice.injEq,aU6,Addr.mk.injEq,and_true,true_and]at h1;obtain⟨⟨rfl,rfl⟩,rfl⟩:=h1;have e:k<n:=by rw[←hn];exact(aT6.1 hk).1
 have g:k*sz+j<n*sz:=by have:(k+1)*sz≤n*sz:=aTz sz e;rw[aUe]at this;omega
 rw[Nat.add_assoc,h2 _ g,gW f sz hf xs k a hk j hj]
def gX (d:jT):List Value:= [.int .i64 d.1,.int .i64 d.2.1,.int .i64 d.2.2]
abbrev RdDeeds (w:World)(v:Value)(ds:List jT):Prop:=Rd w v ds.length 3 (ds.flatMap gX)
theorem RdDeeds.at {w:World}{b c n e:Nat}{ds:List jT}(h:Rd w (.slice (some ⟨b,c,none⟩) n e) n 3 (ds.flatMap gX))(hn:ds.length=n){k:Nat}{d:jT}(hk:ds[k]? =some d):
  w.cell? ⟨b,c+k*3,none⟩=some (I d.1)∧w.cell? ⟨b,c+k*3+1,none⟩=some (I d.2.1)∧w.cell? ⟨b,c+k*3+2,none⟩=some (I d.2.2):=
 ⟨h.at (f:=gX) (fun _=>rfl) hk hn 0 (by omega),h.at (f:=gX) (fun _=>rfl) hk hn 1 (by omega),h.at (f:=gX) (fun _=>rfl) hk hn 2 (by omega)⟩
/-! ### the text -/
/-! ### a builder while the world grows -/
theorem Ext.gb {w w':World}(h:Ext w w'):w.grownBy w' none:=⟨h.os,h.tape,h.output,h.size,fun k hk _=>h.block k hk⟩
theorem tQ {T e:TypeId}{B b:Nat}{p:Value}{bs:List Value}{w w':World}(h:Lib.BuilderAtF T e B b p bs w)(hx:Ext w w'):Lib.BuilderAtF T e B b p bs w':=by have c:=h.lt;obtain⟨hB,v,hh,a,d⟩:=h;exact⟨hB,v,by rw[hx.block b c];exact hh,a.kept hx.gb (by cases v.ownBlock<;>simp),d⟩
theorem rR {T e:TypeId}{B b:Nat}{bs:List Value}{w w':World}(h:Lib.IsBuilderF T e B b bs w)(hx:Ext w w'):Lib.IsBuilderF T e B b bs w':=
 h.elim (fun q=> .inl (tQ q hx)) (fun q=> .inr (tQ q hx))
theorem jK {w wr w':World}{B:Nat}(h:Ext w wr)(hb:Below B wr w')(hB:w.heap.size≤B):Ext w w':=Below.trans h (Below.mono hb hB)
theorem lV (a b:List UInt8):Lib.byteCells (a++b)=Lib.byteCells a++Lib.strCells ⟨b.toArray⟩:=by simp[Lib.byteCells,Lib.strCells]
end Go.Proofs.YtbgkcehffiogcabGreatDoor
