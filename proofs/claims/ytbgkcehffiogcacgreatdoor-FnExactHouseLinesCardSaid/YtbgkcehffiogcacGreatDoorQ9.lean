/-
  Texts of this proof, packed (@packed).
-/
import Derived.Test.YtbgkcehffiogcacGreatDoorQ6
import Derived.Test.YtbgkcehffiogcacGreatDoorQ8
namespace Go.Proofs.YtbgkcehffiogcacGreatDoor
open Go.RowKit
set_option linter.unusedSimpArgs false
set_option linter.unusedVariables false
set_option maxHeartbeats 8000000
set_option maxRecDepth 100000
section
open Go.Proofs.Tryz
def rdV:Option (Int×Int×Int)→Value
 |some (k,a,b)=> .tuple #[fU k a b,.bool true]
 |none=> .tuple #[fU 0 0 0,.bool false]
def lA (o:Option (Int×Int×Int))(w:World)(e:Ending)(w':World):Prop:=e= .returned (rdV o)∧Ext w w'
theorem aW {w:World}{base g n cap:Nat}{e:TypeId}{ps:List (List UInt8)}(h:w.ownsRow base e 1 (.slice (some ⟨g,0,none⟩) n cap) n (gI ps))(j:Nat)(hj:j<n)(p:List UInt8)(hp:ps[j]? =some p):w.cell? ⟨g,j,none⟩=some (str p):=by rw[h.cellAt j (by omega)];simp[gI,hp]
theorem sM (l:List UInt8)(w:World)(ps:List (List UInt8))(b:0<ps.length)(hl:ps.length<2∨2≤ps.length∧3<ps.length)
  (HS:Hid (∀w,Env w→U 76 #[str l,.string ⟨#[32]⟩] w fun e w'=> ∃v,e= .returned v∧w'.ownsRow w 9 1 v ps.length (gI ps)∧Ext w w'))(HE:Hid (Env w)):
  U 32 #[str l] w (lA none w):=by
 rcases hl with hl|⟨h,hl⟩
 all_goals
  go_enter func32,ntmps32;go_wp2_with fail;refine(HS _ (HE.out.ext xE)).mono ?_;rintro e w1 ⟨v,rfl,a,h1⟩;obtain⟨g,c,rfl⟩:=aSx a b;obtain⟨d,f⟩:=h1.cells;clear a;go_wp2;exact bodyPost_ret (v:=rdV none) (by simp[results,results32,go_sem, *];rfl) rfl ⟨rfl,xE⟩
theorem xT (l:List UInt8)(w:World)(p q:List UInt8)(n1:(p== [105,110])=false)(n2:(p== [112,97,121])=false)(n3:(p== [111,117,116])=false)(n4:(p== [119,97,105,116])=false)(n5:(p== [115,108,105,100,101])=false)
  (HS:Hid (∀w,Env w→U 76 #[str l,.string ⟨#[32]⟩] w fun e w'=> ∃v,e= .returned v∧w'.ownsRow w 9 1 v 2 (gI [p,q])∧Ext w w'))(HE:Hid (Env w)):
  U 32 #[str l] w (lA none w):=by
 all_goals
  go_enter func32,ntmps32;go_wp2_with fail;refine(HS _ (HE.out.ext xE)).mono ?_;rintro e w1 ⟨v,rfl,a,h1⟩;obtain⟨g,b,rfl⟩:=aSx a (by omega);have e0:=aW a 0 (by omega) _ rfl;have hg:=(a.lt g rfl).2;obtain⟨c,d⟩:=h1.cells;have f:(w:Nat)<w1:=aRo (by simp) h1.sz;clear a;go_wp2;exact bodyPost_ret (v:=rdV none) (by simp[results,results32,go_sem, *];rfl) rfl ⟨rfl,xE⟩
theorem aEg (l:List UInt8)(w:World)(p q:List UInt8)(k:Int)(hk:p= [105,110]∧k=0∨p= [112,97,121]∧k=1∨p= [111,117,116]∧k=2∨p= [119,97,105,116]∧k=3∨p= [115,108,105,100,101]∧k=4)
  (HS:Hid (∀w,Env w→U 76 #[str l,.string ⟨#[32]⟩] w fun e w'=> ∃v,e= .returned v∧w'.ownsRow w 9 1 v 2 (gI [p,q])∧Ext w w'))(HE:Hid (Env w))
  (HR:Hid (∀w,U 77 #[str q,I 4] w fun e w'=>e= .returned (.tuple #[(),.bool false])∧w=w')):
  U 32 #[str l] w (lA none w):=by
 rcases hk with⟨rfl,rfl⟩|⟨rfl,rfl⟩|⟨rfl,rfl⟩|⟨rfl,rfl⟩|⟨rfl,rfl⟩
 all_goals
  go_enter func32,ntmps32;go_wp2_with fail;refine(HS _ (HE.out.ext xE)).mono ?_;rintro e w1 ⟨v,rfl,a,h1⟩;obtain⟨g,b,rfl⟩:=aSx a (by omega);have e0:=aW a 0 (by omega) _ rfl;have e1:=aW a 1 (by omega) _ rfl;have hg:=(a.lt g rfl).2;obtain⟨c,d⟩:=h1.cells;have f:(w:Nat)<w1:=aRo (by simp) h1.sz;clear a;go_wp2_with fail;refine(HR _).mono ?_;rintro e w2 ⟨rfl,rfl⟩;go_wp2;exact bodyPost_ret (v:=rdV none) (by simp[results,results32,go_sem, *];rfl) rfl ⟨rfl,xE⟩
theorem xS (l:List UInt8)(w:World)(p q r:List UInt8)(n1:(p== [105,110])=false)(n2:(p== [112,97,121])=false)(n3:(p== [111,117,116])=false)(n4:(p== [119,97,105,116])=false)(n5:(p== [115,108,105,100,101])=false)
  (HS:Hid (∀w,Env w→U 76 #[str l,.string ⟨#[32]⟩] w fun e w'=> ∃v,e= .returned v∧w'.ownsRow w 9 1 v 3 (gI [p,q,r])∧Ext w w'))(HE:Hid (Env w)):
  U 32 #[str l] w (lA none w):=by
 all_goals
  go_enter func32,ntmps32;go_wp2_with fail;refine(HS _ (HE.out.ext xE)).mono ?_;rintro e w1 ⟨v,rfl,a,h1⟩;obtain⟨g,b,rfl⟩:=aSx a (by omega);have e0:=aW a 0 (by omega) _ rfl;have hg:=(a.lt g rfl).2;obtain⟨c,d⟩:=h1.cells;have f:(w:Nat)<w1:=aRo (by simp) h1.sz;clear a;go_wp2;exact bodyPost_ret (v:=rdV none) (by simp[results,results32,go_sem, *];rfl) rfl ⟨rfl,xE⟩
theorem aEf (l:List UInt8)(w:World)(p q r:List UInt8)(k:Int)(hk:p= [105,110]∧k=0∨p= [112,97,121]∧k=1∨p= [111,117,116]∧k=2∨p= [119,97,105,116]∧k=3∨p= [115,108,105,100,101]∧k=4)
  (HS:Hid (∀w,Env w→U 76 #[str l,.string ⟨#[32]⟩] w fun e w'=> ∃v,e= .returned v∧w'.ownsRow w 9 1 v 3 (gI [p,q,r])∧Ext w w'))(HE:Hid (Env w))
  (HR:Hid (∀w,U 77 #[str q,I 4] w fun e w'=>e= .returned (.tuple #[(),.bool false])∧w=w')):
  U 32 #[str l] w (lA none w):=by
 rcases hk with⟨rfl,rfl⟩|⟨rfl,rfl⟩|⟨rfl,rfl⟩|⟨rfl,rfl⟩|⟨rfl,rfl⟩
 all_goals
  go_enter func32,ntmps32;go_wp2_with fail;refine(HS _ (HE.out.ext xE)).mono ?_;rintro e w1 ⟨v,rfl,a,h1⟩;obtain⟨g,b,rfl⟩:=aSx a (by omega);have e0:=aW a 0 (by omega) _ rfl;have e1:=aW a 1 (by omega) _ rfl;have hg:=(a.lt g rfl).2;obtain⟨c,d⟩:=h1.cells;have f:(w:Nat)<w1:=aRo (by simp) h1.sz;clear a;go_wp2_with fail;refine(HR _).mono ?_;rintro e w2 ⟨rfl,rfl⟩;go_wp2;exact bodyPost_ret (v:=rdV none) (by simp[results,results32,go_sem, *];rfl) rfl ⟨rfl,xE⟩
theorem aEe (l:List UInt8)(w:World)(p q r:List UInt8)(k a:Int)(hk:p= [105,110]∧k=0∨p= [112,97,121]∧k=1∨p= [111,117,116]∧k=2∨p= [119,97,105,116]∧k=3∨p= [115,108,105,100,101]∧k=4)
  (HS:Hid (∀w,Env w→U 76 #[str l,.string ⟨#[32]⟩] w fun e w'=> ∃v,e= .returned v∧w'.ownsRow w 9 1 v 3 (gI [p,q,r])∧Ext w w'))(HE:Hid (Env w))
  (HR:Hid (∀w,U 77 #[str q,I 4] w fun e w'=>e= .returned (.tuple #[a,.bool true])∧w=w'))
  (c:Hid (∀w,U 77 #[str r,I 4] w fun e w'=>e= .returned (.tuple #[(),.bool false])∧w=w')):
  U 32 #[str l] w (lA none w):=by
 rcases hk with⟨rfl,rfl⟩|⟨rfl,rfl⟩|⟨rfl,rfl⟩|⟨rfl,rfl⟩|⟨rfl,rfl⟩
 all_goals
  go_enter func32,ntmps32;go_wp2_with fail;refine(HS _ (HE.out.ext xE)).mono ?_;rintro e w1 ⟨v,rfl,b,h1⟩;obtain⟨g,d,rfl⟩:=aSx b (by omega);have e0:=aW b 0 (by omega) _ rfl;have e1:=aW b 1 (by omega) _ rfl;have e2:=aW b 2 (by omega) _ rfl;have hg:=(b.lt g rfl).2;obtain⟨f,h⟩:=h1.cells;have i:(w:Nat)<w1:=aRo (by simp) h1.sz;clear b;go_wp2_with fail;refine(HR _).mono ?_;rintro e w2 ⟨rfl,rfl⟩;go_wp2_with fail;refine(c _).mono ?_;rintro e w2 ⟨rfl,rfl⟩;go_wp2;exact bodyPost_ret (v:=rdV none) (by simp[results,results32,go_sem, *];rfl) rfl ⟨rfl,xE⟩
theorem aC3 (l:List UInt8)(w:World)(p q t:List UInt8)(k a:Int)(hk:p= [105,110]∧k=0∨p= [112,97,121]∧k=1∨p= [111,117,116]∧k=2∨p= [119,97,105,116]∧k=3∨p= [115,108,105,100,101]∧k=4)(ht:(t==l)=true)
  (HS:Hid (∀w,Env w→U 76 #[str l,.string ⟨#[32]⟩] w fun e w'=> ∃v,e= .returned v∧w'.ownsRow w 9 1 v 2 (gI [p,q])∧Ext w w'))(HE:Hid (Env w))
  (HR:Hid (∀w,U 77 #[str q,I 4] w fun e w'=>e= .returned (.tuple #[a,.bool true])∧w=w'))
  (HD:Hid (∀w,Env w→U 78 #[fU k a 0] w (O (str t) w))):
  U 32 #[str l] w (lA (some (k,a,0)) w):=by
 rcases hk with⟨rfl,rfl⟩|⟨rfl,rfl⟩|⟨rfl,rfl⟩|⟨rfl,rfl⟩|⟨rfl,rfl⟩
 all_goals
  go_enter func32,ntmps32;go_wp2_with fail;refine(HS _ (HE.out.ext xE)).mono ?_;rintro e w1 ⟨v,rfl,b,h1⟩;obtain⟨g,c,rfl⟩:=aSx b (by omega);have e0:=aW b 0 (by omega) _ rfl;have e1:=aW b 1 (by omega) _ rfl;have hg:=(b.lt g rfl).2;obtain⟨d,i⟩:=h1.cells;have n:(w:Nat)<w1:=aRo (by simp) h1.sz;clear b;go_wp2_with fail;refine(HR _).mono ?_;rintro e w2 ⟨rfl,rfl⟩;go_wp2_with fail;refine Z (HD _ (HE.out.ext xE)) fun w2 h2=>?_
  obtain⟨f,j⟩:=h2.cells;have hw:=(h1.alloc (.cells #[_,_,_] 53)).trans h2;obtain⟨h,m⟩:=hw.cells;go_wp2;exact bodyPost_ret (v:=rdV (some (_,a,0))) (by simp[results,results32,go_sem, *];rfl) rfl ⟨rfl,xE⟩
theorem aC5 (l:List UInt8)(w:World)(p q t:List UInt8)(k a:Int)(hk:p= [105,110]∧k=0∨p= [112,97,121]∧k=1∨p= [111,117,116]∧k=2∨p= [119,97,105,116]∧k=3∨p= [115,108,105,100,101]∧k=4)(ht:(t==l)=false)
  (HS:Hid (∀w,Env w→U 76 #[str l,.string ⟨#[32]⟩] w fun e w'=> ∃v,e= .returned v∧w'.ownsRow w 9 1 v 2 (gI [p,q])∧Ext w w'))(HE:Hid (Env w))
  (HR:Hid (∀w,U 77 #[str q,I 4] w fun e w'=>e= .returned (.tuple #[a,.bool true])∧w=w'))
  (HD:Hid (∀w,Env w→U 78 #[fU k a 0] w (O (str t) w))):
  U 32 #[str l] w (lA (none) w):=by
 rcases hk with⟨rfl,rfl⟩|⟨rfl,rfl⟩|⟨rfl,rfl⟩|⟨rfl,rfl⟩|⟨rfl,rfl⟩
 all_goals
  go_enter func32,ntmps32;go_wp2_with fail;refine(HS _ (HE.out.ext xE)).mono ?_;rintro e w1 ⟨v,rfl,b,h1⟩;obtain⟨g,c,rfl⟩:=aSx b (by omega);have e0:=aW b 0 (by omega) _ rfl;have e1:=aW b 1 (by omega) _ rfl;have hg:=(b.lt g rfl).2;obtain⟨d,i⟩:=h1.cells;have n:(w:Nat)<w1:=aRo (by simp) h1.sz;clear b;go_wp2_with fail;refine(HR _).mono ?_;rintro e w2 ⟨rfl,rfl⟩;go_wp2_with fail;refine Z (HD _ (HE.out.ext xE)) fun w2 h2=>?_
  obtain⟨f,j⟩:=h2.cells;have hw:=(h1.alloc (.cells #[_,_,_] 53)).trans h2;obtain⟨h,m⟩:=hw.cells;go_wp2;exact bodyPost_ret (v:=rdV none) (by simp[results,results32,go_sem, *];rfl) rfl ⟨rfl,xE⟩
theorem aC2 (l:List UInt8)(w:World)(p q r t:List UInt8)(k a b:Int)(hk:p= [105,110]∧k=0∨p= [112,97,121]∧k=1∨p= [111,117,116]∧k=2∨p= [119,97,105,116]∧k=3∨p= [115,108,105,100,101]∧k=4)(ht:(t==l)=true)
  (HS:Hid (∀w,Env w→U 76 #[str l,.string ⟨#[32]⟩] w fun e w'=> ∃v,e= .returned v∧w'.ownsRow w 9 1 v 3 (gI [p,q,r])∧Ext w w'))(HE:Hid (Env w))
  (HR:Hid (∀w,U 77 #[str q,I 4] w fun e w'=>e= .returned (.tuple #[a,.bool true])∧w=w'))
  (d:Hid (∀w,U 77 #[str r,I 4] w fun e w'=>e= .returned (.tuple #[b,.bool true])∧w=w'))
  (HD:Hid (∀w,Env w→U 78 #[fU k a b] w (O (str t) w))):
  U 32 #[str l] w (lA (some (k,a,b)) w):=by
 rcases hk with⟨rfl,rfl⟩|⟨rfl,rfl⟩|⟨rfl,rfl⟩|⟨rfl,rfl⟩|⟨rfl,rfl⟩
 all_goals
  go_enter func32,ntmps32;go_wp2_with fail;refine(HS _ (HE.out.ext xE)).mono ?_;rintro e w1 ⟨v,rfl,c,h1⟩;obtain⟨g,f,rfl⟩:=aSx c (by omega);have e0:=aW c 0 (by omega) _ rfl;have e1:=aW c 1 (by omega) _ rfl;have e2:=aW c 2 (by omega) _ rfl;have hg:=(c.lt g rfl).2;obtain⟨h,m⟩:=h1.cells;have s:(w:Nat)<w1:=aRo (by simp) h1.sz;clear c;go_wp2_with fail;refine(HR _).mono ?_;rintro e w2 ⟨rfl,rfl⟩;go_wp2_with fail;refine(d _).mono ?_;rintro e w2 ⟨rfl,rfl⟩;go_wp2_with fail;refine Z (HD _ (HE.out.ext xE)) fun w2 h2=>?_
  obtain⟨i,n⟩:=h2.cells;have hw:=(h1.alloc (.cells #[_,_,_] 53)).trans h2;obtain⟨j,o⟩:=hw.cells;go_wp2;exact bodyPost_ret (v:=rdV (some (_,a,b))) (by simp[results,results32,go_sem, *];rfl) rfl ⟨rfl,xE⟩
theorem aC4 (l:List UInt8)(w:World)(p q r t:List UInt8)(k a b:Int)(hk:p= [105,110]∧k=0∨p= [112,97,121]∧k=1∨p= [111,117,116]∧k=2∨p= [119,97,105,116]∧k=3∨p= [115,108,105,100,101]∧k=4)(ht:(t==l)=false)
  (HS:Hid (∀w,Env w→U 76 #[str l,.string ⟨#[32]⟩] w fun e w'=> ∃v,e= .returned v∧w'.ownsRow w 9 1 v 3 (gI [p,q,r])∧Ext w w'))(HE:Hid (Env w))
  (HR:Hid (∀w,U 77 #[str q,I 4] w fun e w'=>e= .returned (.tuple #[a,.bool true])∧w=w'))
  (d:Hid (∀w,U 77 #[str r,I 4] w fun e w'=>e= .returned (.tuple #[b,.bool true])∧w=w'))
  (HD:Hid (∀w,Env w→U 78 #[fU k a b] w (O (str t) w))):
  U 32 #[str l] w (lA (none) w):=by
 rcases hk with⟨rfl,rfl⟩|⟨rfl,rfl⟩|⟨rfl,rfl⟩|⟨rfl,rfl⟩|⟨rfl,rfl⟩
 all_goals
  go_enter func32,ntmps32;go_wp2_with fail;refine(HS _ (HE.out.ext xE)).mono ?_;rintro e w1 ⟨v,rfl,c,h1⟩;obtain⟨g,f,rfl⟩:=aSx c (by omega);have e0:=aW c 0 (by omega) _ rfl;have e1:=aW c 1 (by omega) _ rfl;have e2:=aW c 2 (by omega) _ rfl;have hg:=(c.lt g rfl).2;obtain⟨h,m⟩:=h1.cells;have s:(w:Nat)<w1:=aRo (by simp) h1.sz;clear c;go_wp2_with fail;refine(HR _).mono ?_;rintro e w2 ⟨rfl,rfl⟩;go_wp2_with fail;refine(d _).mono ?_;rintro e w2 ⟨rfl,rfl⟩;go_wp2_with fail;refine Z (HD _ (HE.out.ext xE)) fun w2 h2=>?_
  obtain⟨i,n⟩:=h2.cells;have hw:=(h1.alloc (.cells #[_,_,_] 53)).trans h2;obtain⟨j,o⟩:=hw.cells;go_wp2;exact bodyPost_ret (v:=rdV none) (by simp[results,results32,go_sem, *];rfl) rfl ⟨rfl,xE⟩
end
theorem yK (c:UInt8): ∀(l:List UInt8),(∀p∈cL c l,p.length≤l.length)∧(cL c l).length≤l.length+1:=by
 intro l;induction l with
 |nil=>simp[cL]
 |cons x xs ih=>
  by_cases h:x=c
  ·have e:cL c (x::xs)= []::cL c xs:=by rw[cL,if_pos h]
   rw[e];refine⟨fun p hp=> ?_,by simp;exact ih.2⟩;rcases aS6.1 hp with rfl|hp
   ·simp
   have:=ih.1 p hp;simp;omega
  have e:cL c (x::xs)=match cL c xs with| []=> [[x]]|p::ps=>(x::p)::ps:=by rw[cL,if_neg h]<;>rfl
  rw[e];cases hq:cL c xs with
  |nil=>exact absurd hq (kO c xs)
  |cons q qs=>
   rw[hq]at ih;refine⟨fun p hp=> ?_,by have:=ih.2;simp at this⊢;omega⟩;rcases aS6.1 hp with rfl|hp
   ·have:=ih.1 q (by simp);simp;omega
   have:=ih.1 p (by simp[hp]);simp;omega
theorem pD {p:List UInt8}(h:iP p=none):(p== [105,110])=false∧(p== [112,97,121])=false∧(p== [111,117,116])=false∧(p== [119,97,105,116])=false∧(p== [115,108,105,100,101])=false:=by
 unfold iP at h
 repeat' split at h
 all_goals simp_all
theorem fG {p:List UInt8}{k:Int}(h:iP p=some k):p= [105,110]∧k=0∨p= [112,97,121]∧k=1∨p= [111,117,116]∧k=2∨p= [119,97,105,116]∧k=3∨p= [115,108,105,100,101]∧k=4:=by
 unfold iP at h
 repeat' split at h
 all_goals simp_all
theorem uU (q:List UInt8)(m:Nat)(hm:1≤m∧m≤5)(hq:q.length≤maxLen)(w:World):U 77 #[str q,m] w fun e w'=>e= .returned (.tuple #[((dR m q).getD 0:Int),.bool (dR m q).isSome])∧w=w':=
 wV ⟨q.toArray⟩ m w hm (by simpa[ByteArray.size]using hq)
theorem aC6 (l:List UInt8)(w:World)(hs:l.length<4294967281)(hE:Env w):U 32 #[str l] w (lA (bY l) w):=by
 have hS: ∀w,Env w→U 76 #[str l,.string ⟨#[32]⟩] w fun e w'=> ∃v,e= .returned v∧w'.ownsRow w 9 1 v (cL 32 l).length (gI (cL 32 l))∧Ext w w':=
  fun w hE=>aJ9 ⟨l.toArray⟩ 32 w (by simpa[ByteArray.size]using hs) hE
 have d:=yK 32 l;have c: ∀q∈cL 32 l,∀o,dR 4 q=o→Hid (∀w,U 77 #[str q,I 4] w fun e w'=>e= .returned (.tuple #[(o.getD 0:Int),.bool o.isSome])∧w=w'):=by intro q hq o ho w;subst ho;exact uU q 4 (by omega) (by have:=d.1 q hq;unfold maxLen;omega) w
 rcases hc:cL 32 l with _|⟨p,_|⟨q,_|⟨r,_|⟨x,rest⟩⟩⟩⟩
 ·exact absurd hc (kO 32 l)
 ·rw[hc]at hS;have e:bY l=none:=by unfold bY;rw[hc]
  rw[e];exact sM l w [p] (by simp) (.inl (by simp)) hS hE
 ·rw[hc]at hS c;cases hk:iP p with
  |none=>
   obtain⟨n1,n2,n3,n4,n5⟩:=pD hk;have e:bY l=none:=by unfold bY;rw[hc];simp[hk]
   rw[e];exact xT l w p q n1 n2 n3 n4 n5 hS hE
  |some k=>
   cases hq:dR 4 q with
   |none=>
    have e:bY l=none:=by unfold bY;rw[hc];simp[hk,hq]
    rw[e];exact aEg l w p q k (fG hk) hS hE (c q (by simp) _ hq)
   |some a=>
    by_cases ht:bL k a 0=l
    ·skip;have e:bY l=some (k,a,0):=by unfold bY;rw[hc];simp[hk,hq,ht]
     rw[e];exact aC3 l w p q (bL k a 0) k a (fG hk) (by simp[ht]) hS hE (c q (by simp) _ hq) (fun w h=>sQ k a 0 w h)
    skip;have e:bY l=none:=by unfold bY;rw[hc];simp[hk,hq,ht]
    rw[e];exact aC5 l w p q (bL k a 0) k a (fG hk) (by simp[ht]) hS hE (c q (by simp) _ hq) (fun w h=>sQ k a 0 w h)
 ·rw[hc]at hS c;cases hk:iP p with
  |none=>
   obtain⟨n1,n2,n3,n4,n5⟩:=pD hk;have e:bY l=none:=by unfold bY;rw[hc];simp[hk]
   rw[e];exact xS l w p q r n1 n2 n3 n4 n5 hS hE
  |some k=>
   cases hq:dR 4 q with
   |none=>
    have e:bY l=none:=by unfold bY;rw[hc];simp[hk,hq]
    rw[e];exact aEf l w p q r k (fG hk) hS hE (c q (by simp) _ hq)
   |some a=>
    cases hr:dR 4 r with
    |none=>
     have e:bY l=none:=by unfold bY;rw[hc];simp[hk,hq,hr]
     rw[e];exact aEe l w p q r k a (fG hk) hS hE (c q (by simp) _ hq) (c r (by simp) _ hr)
    |some b=>
     by_cases ht:bL k a b=l
     ·skip;have e:bY l=some (k,a,b):=by unfold bY;rw[hc];simp[hk,hq,hr,ht]
      rw[e];exact aC2 l w p q r (bL k a b) k a b (fG hk) (by simp[ht]) hS hE (c q (by simp) _ hq) (c r (by simp) _ hr) (fun w h=>sQ k a b w h)
     skip;have e:bY l=none:=by unfold bY;rw[hc];simp[hk,hq,hr,ht]
     rw[e];exact aC4 l w p q r (bL k a b) k a b (fG hk) (by simp[ht]) hS hE (c q (by simp) _ hq) (c r (by simp) _ hr) (fun w h=>sQ k a b w h)
 rw[hc]at hS;have e:bY l=none:=by unfold bY;rw[hc]
 rw[e];exact sM l w (p::q::r::x::rest) (by simp) (.inr (by simp)) hS hE
theorem pP (c:UInt8): ∀l:List UInt8,c∉l→gC c l=l∧gK c l= []:=by
 intro l;induction l with
 |nil=>intro _;exact⟨rfl,rfl⟩
 |cons x xs ih=>
  intro h;have hx:x≠c:=fun q=>h (by simp[q])
  obtain⟨i1,i2⟩:=ih (fun q=>h (by simp[q]));simp[gC,gK,hx,i1,i2]
theorem aEc (c:UInt8)(a b:List UInt8)(h:c∉a):Lib.index (a++c::b) [c]=a.length:=by
 rcases qN c (a++c::b)with⟨h1,h2,h3⟩|⟨i,h1,h2,h3,h4⟩
 ·exact absurd (by simp) h3
 have e:=aL6 c (a++c::b);rw[h3,(iU c a b h).1]at e;simp only[aU0,aTh]at e;have:=congrArg List.length e;simp at this h2;rw[h1];omega
theorem aQm (c:UInt8)(l:List UInt8):(Lib.cut l [c]).1=gC c l∧(Lib.cut l [c]).2.1=gK c l:=by
 by_cases h:c∈l
 ·obtain⟨a,b,rfl,ha⟩:=qQ c l h;unfold Lib.cut;rw[aEc c a b ha,if_pos (by omega),(iU c a b ha).1,(iU c a b ha).2];simp
 have e:Lib.index l [c]= -1:=by
  rcases qN c l with⟨h1,_⟩|⟨i,h1,h2,h3,h4⟩
  ·exact h1
  exfalso;have e2:=lP c l h;rw[h3]at e2;have:=congrArg List.length e2;simp at this;exact absurd this (kO c _)
 unfold Lib.cut;rw[e,if_neg (by omega),(pP c l h).1,(pP c l h).2];exact⟨rfl,rfl⟩
theorem aOf (l:List UInt8)(c:UInt8)(w:World)(hs:l.length<4294967281)(hE:Env w):
  U 91 #[str l,.string ⟨#[c]⟩] w (O (.tuple #[str (gC c l),str (gK c l),.bool (Lib.cut l [c]).2.2]) w):=by
 obtain⟨m,hm⟩:=hE.mx;refine(Tryz.strings_Cut ⟨l.toArray⟩ ⟨#[c]⟩ m w (by simpa[ByteArray.size]using hs) hm).mono ?_;rintro e w' ⟨rfl,n,rfl⟩;obtain⟨c1,c2⟩:=aQm c l;refine⟨?_,(Ext.refl _).drewN _⟩;show Ending.returned (.tuple #[.string ⟨(Lib.cut l [c]).1.toArray⟩,.string ⟨(Lib.cut l [c]).2.1.toArray⟩,.bool (Lib.cut l [c]).2.2])=_;rw[c1,c2]
/-! ### slices of structs -/
theorem Rd.at {α:Type}{f:α→List Value}{w:World}{b c n cap sz:Nat}{xs:List α}(hf: ∀a,(f a).length=sz)(h:Rd w (.slice (some ⟨b,c,none⟩) n cap) n sz (xs.flatMap f)){k:Nat}{a:α}(hk:xs[k]? =some a) (hn:xs.length=n) (j:Nat) (hj:j<sz):
  w.cell? ⟨b,c+k*sz+j,none⟩=(f a)[j]? :=by
 rcases h.2 with⟨h1,_⟩|⟨b',off',cap',h1,_,_,_,h2⟩
 ·simp at h1
 simp only[Value.slice.injEq,aTh,Addr.mk.injEq,and_true,true_and]at h1;obtain⟨⟨rfl,rfl⟩,rfl⟩:=h1;have d:k<n:=by rw[←hn];exact(aRt.1 hk).1
 have e:k*sz+j<n*sz:=by have:(k+1)*sz≤n*sz:=aSj sz d;rw[aT2]at this;omega
 rw[Nat.add_assoc,h2 _ e,eP f sz hf xs k a hk j hj]
def nL (d:aIz):List Value:= [.int .i64 d.1,.int .i64 d.2.1,.int .i64 d.2.2]
abbrev RdDeeds (w:World)(v:Value)(ds:List aIz):Prop:=Rd w v ds.length 3 (ds.flatMap nL)
theorem RdDeeds.at {w:World}{b c n cap:Nat}{ds:List aIz}(h:Rd w (.slice (some ⟨b,c,none⟩) n cap) n 3 (ds.flatMap nL))(hn:ds.length=n){k:Nat}{d:aIz}(hk:ds[k]? =some d):
  w.cell? ⟨b,c+k*3,none⟩=some (I d.1)∧w.cell? ⟨b,c+k*3+1,none⟩=some (I d.2.1)∧w.cell? ⟨b,c+k*3+2,none⟩=some (I d.2.2):=
 ⟨h.at (f:=nL) (fun _=>rfl) hk hn 0 (by omega),h.at (f:=nL) (fun _=>rfl) hk hn 1 (by omega),h.at (f:=nL) (fun _=>rfl) hk hn 2 (by omega)⟩
/-! ### the text -/
/-! ### a builder while the world grows -/
theorem Ext.gb {w w':World}(h:Ext w w'):w.grownBy w' none:=⟨h.os,h.tape,h.output,h.size,fun k hk _=>h.block k hk⟩
theorem rA {T e:TypeId}{B b:Nat}{p:Value}{bs:List Value}{w w':World}(h:Lib.BuilderAtF T e B b p bs w)(hx:Ext w w'):Lib.BuilderAtF T e B b p bs w':=by have c:=h.lt;obtain⟨hB,v,hh,a,d⟩:=h;exact⟨hB,v,by rw[hx.block b c];exact hh,a.kept hx.gb (by cases v.ownBlock<;>simp),d⟩
theorem pS {T e:TypeId}{B b:Nat}{bs:List Value}{w w':World}(h:Lib.IsBuilderF T e B b bs w)(hx:Ext w w'):Lib.IsBuilderF T e B b bs w':=
 h.elim (fun q=> .inl (rA q hx)) (fun q=> .inr (rA q hx))
theorem iH {w wr w':World}{B:Nat}(h:Ext w wr)(hb:Below B wr w')(hB:w.heap.size≤B):Ext w w':=Below.trans h (Below.mono hb hB)
theorem kL (a b:List UInt8):Lib.byteCells (a++b)=Lib.byteCells a++Lib.strCells ⟨b.toArray⟩:=by simp[Lib.byteCells,Lib.strCells]
section
open Go.Proofs.Tryz
def fL (x:Int):List UInt8:=if x=0 then [46]else Lib.decDigits x.toNat
def dJ (aA:Int)(k:Nat):List UInt8:=if k=0 then []else if(k:Int)%aA=0 then [47]else [44]
def aU (aA:Int)(xs:List Int):Nat→List UInt8
 |0=> []
 |k+1=>aU aA xs k++dJ aA k++fL (xs[k]?.getD 0)
def fH (aA aB:Int)(xs:List Int):List UInt8:=if aO aA aB xs then aU aA xs xs.length else []
theorem aFa (x:Int)(h:x≤99):(fL x).length≤21:=by
 unfold fL;split
 ·simp
 exact cS _ (by omega)
theorem nB (aA:Int)(xs:List Int)(h: ∀x∈xs,x≤99): ∀k,(aU aA xs k).length≤22*k:=by
 intro k;induction k with
 |zero=>simp[aU]
 |succ k ih=>
  have h1:(fL (xs[k]?.getD 0)).length≤21:=by
   refine aFa _ ?_;cases hx:xs[k]? with
   |none=>simp
   |some x=>exact h x (aRs hx)
  have h2:(dJ aA k).length≤1:=by unfold dJ;split;simp;split<;>simp
  simp only[aU,aRx];omega
theorem pJ {aA:Int}{xs:List Int}{k:Nat}{x:Int}(h:xs[k]? =some x):aU aA xs (k+1)=aU aA xs k++dJ aA k++fL x:=by simp[aU,h]
theorem iV (a:List UInt8)(c:UInt8)(ci:Int)(hc:ci=(c.toNat:Int)):Lib.byteCells (a++ [c])=Lib.byteCells a++ [.int .u8 ci]:=by subst hc;simp[Lib.byteCells]
theorem uB (aA aB:Int)(p:OA)(n cap:Nat)(w:World)(HV:xB 72 #[aH aA aB p n cap] w false):
  U 88 #[aH aA aB p n cap] w (O (str []) w):=by
 go_enter func88,ntmps88;go_wp2_with fail;refine Z (HV _ (by exact .alloc (.refl _) _)) fun w1 h1=>?_
 go_wp2;go_ret;exact⟨rfl,by exact .trans (.alloc (.refl _) _) h1⟩
theorem vV (aA aB:Int)(p:OA)(n cap:Nat)(xs:List Int)(w:World)(ab:Env w)(h0:2≤aA)(h1:aA≤4)(hn:n≤12)(hc: ∀x∈xs,0≤x∧x≤99)(HS:Hid (Sl w p n cap 1 (ivs xs)))
  (HV:xB 72 #[aH aA aB p n cap] w true):
  U 88 #[aH aA aB p n cap] w (O (str (aU aA xs n)) w):=by
 have z:=xQ ab;have HC:=xQ hc;clear ab hc;go_enter func88,ntmps88;go_wp2_with fail;refine Z (HV _ (by exact .alloc (.refl _) _)) fun w1 u=>?_
 have ah:(w:Nat)<w1:=aRo (by simp) u.sz;have ea:w1.cell? ⟨w,0,none⟩=some (I aA):=by rw[u.cells.1 _ _ (by simp)];simp
 have eb:w1.cell? ⟨w,2,none⟩=some (.slice p n cap):=by rw[u.cells.1 _ _ (by simp)];simp
 have y:Ext w w1:=by exact .trans (.alloc (.refl _) _) u
 go_wp2;go_loopw [12] (fun i wr=> ∃(k:Nat),k≤n∧i=I k∧Lib.IsBuilderF 145 5 w1 w1 (Lib.byteCells (aU aA xs k)) wr∧Ext w1 wr∧w1.heap.size<wr.heap.size) (fun i _=>n-(intOf i).toNat)
 case atStart=>exact⟨0,aRv _,rfl,.inl ⟨aRp _,.slice none 0 0,by rw[heap_alloc_new],World.ownsRowF_nil _ _ _ _,by simp[Value.ownBlock]⟩,(Ext.refl _).alloc _,by simp⟩
 case round=>
  obtain⟨k,hk,rfl,ae,hE,v⟩:=hrel;have s:=xQ ae;clear ae;have ad:Ext w wr:=y.trans hE;have aj:wr.cell? ⟨w,0,none⟩=some (I aA):=(hE.cells.1 _ _ ah).trans ea;have o:(Lib.byteCells (aU aA xs k)).length≤300:=by have:=nB aA xs (fun x hx=>(HC x hx).2) k;simp[Lib.byteCells];omega
  by_cases hlt:k<n
  ·obtain⟨b,al,x,rfl,hx,ak,ag⟩:=(HS.out.ext ad).int_at hlt;obtain⟨aa,ai⟩:=HC x (aRs hx);have HX:=xQ hx;clear hx;have j:=xQ (pJ (aA:=aA) HX.out);by_cases hk0:k=0
   ·have k1:((k:Int)==0)=true:=by simp[hk0]
    have c:Hid (dJ aA k= []):=by show _=_;simp[dJ,hk0]
    clear hk0;by_cases hz:x=0
    ·have z1:(x==0)=true:=by simp[hz]
     have a:Hid (aU aA xs (k+1)=aU aA xs k++ [46]):=by show _=_;rw[j.out,c.out,aSe];simp[fL,hz]
     clear hz;go_wp2_with fail;refine(kZ w1 w1 (Lib.byteCells (aU aA xs k)) 46 _ s (by simp[Lib.byteCells]at o⊢;omega) (by omega)).mono ?_;rintro e w3 ⟨rfl,h2,h3,_⟩;have d:Hid (Lib.IsBuilderF 145 5 w1 w1 (Lib.byteCells (aU aA xs (k+1))) w3):=by rw[a.out,iV _ 46 46 rfl];exact .inr h2
     have g:Ext w1 w3:=iH hE h3 (aRp _);have h:(w1:Nat)<w3:=aRo v h3.size;clear h2 h3;go_wp2;go_roundw
     case rel=>exact⟨k+1,by omega,by go_num,d.out,g,h⟩
     case measure=>simp[intOf];omega
    have z1:(x==0)=false:=by simp[hz]
    have a:Hid (aU aA xs (k+1)=aU aA xs k++Lib.decDigits x.toNat):=by show _=_;rw[j.out,c.out,aSe];simp[fL,hz]
    clear hz;have af:(Lib.decDigits x.toNat).length≤21:=cS _ (by omega);go_wp2_with fail;refine Z (oO x _ aa (by omega) (z.out.ext (y.trans hE))) fun w3 f=>?_
    have q:=xQ (pS s f);have m:(w1:Nat)<w3:=aRo v f.sz;go_wp2_with fail;refine(nD w1 w1 (Lib.byteCells (aU aA xs k)) _ _ q (by simp[Lib.byteCells,ByteArray.size]at o⊢;omega) (by omega)).mono ?_;rintro e w4 ⟨rfl,h2,h3,_⟩;have d:Hid (Lib.IsBuilderF 145 5 w1 w1 (Lib.byteCells (aU aA xs (k+1))) w4):=by rw[a.out,kL];exact .inr h2
    have g:Ext w1 w4:=iH (Ext.trans hE f) h3 (aRp _);have h:(w1:Nat)<w4:=aRo m h3.size;clear h2 h3;go_wp2;go_roundw
    case rel=>exact⟨k+1,by omega,by go_num,d.out,g,h⟩
    case measure=>simp[intOf];omega
   have k1:((k:Int)==0)=false:=by simp;omega
   by_cases hm:(k:Int)%aA=0
   ·have k2:((k:Int)%aA==0)=true:=by simp[hm]
    have c:Hid (dJ aA k= [47]):=by show _=_;simp[dJ,hk0,hm]
    clear hk0 hm;go_wp2_with fail;refine(kZ w1 w1 (Lib.byteCells (aU aA xs k)) 47 _ s (by omega) (by omega)).mono ?_;rintro e w2 ⟨rfl,h2,h3,_⟩;have r:Hid (Lib.IsBuilderF 145 5 w1 w1 (Lib.byteCells (aU aA xs k++ [47])) w2):=by rw[iV _ 47 47 rfl];exact .inr h2
    have l:Ext w1 w2:=iH hE h3 (aRp _);have t:(w1:Nat)<w2:=aRo v h3.size;clear h2 h3;by_cases hz:x=0
    ·have z1:(x==0)=true:=by simp[hz]
     have a:Hid (aU aA xs (k+1)=aU aA xs k++ [47]++ [46]):=by show _=_;rw[j.out,c.out];simp[fL,hz]
     clear hz;go_wp2_with fail;refine(kZ w1 w1 (Lib.byteCells (aU aA xs k++ [47])) 46 _ r (by simp[Lib.byteCells]at o⊢;omega) (by omega)).mono ?_;rintro e w3 ⟨rfl,h2,h3,_⟩;have d:Hid (Lib.IsBuilderF 145 5 w1 w1 (Lib.byteCells (aU aA xs (k+1))) w3):=by rw[a.out,iV _ 46 46 rfl];exact .inr h2
     have g:Ext w1 w3:=iH l h3 (aRp _);have h:(w1:Nat)<w3:=aRo t h3.size;clear h2 h3;go_wp2;go_roundw
     case rel=>exact⟨k+1,by omega,by go_num,d.out,g,h⟩
     case measure=>simp[intOf];omega
    have z1:(x==0)=false:=by simp[hz]
    have a:Hid (aU aA xs (k+1)=aU aA xs k++ [47]++Lib.decDigits x.toNat):=by show _=_;rw[j.out,c.out];simp[fL,hz]
    clear hz;have af:(Lib.decDigits x.toNat).length≤21:=cS _ (by omega);go_wp2_with fail;refine Z (oO x _ aa (by omega) (z.out.ext (y.trans l))) fun w3 f=>?_
    have q:=xQ (pS r f);have m:(w1:Nat)<w3:=aRo t f.sz;go_wp2_with fail;refine(nD w1 w1 (Lib.byteCells (aU aA xs k++ [47])) _ _ q (by simp[Lib.byteCells,ByteArray.size]at o⊢;omega) (by omega)).mono ?_;rintro e w4 ⟨rfl,h2,h3,_⟩;have d:Hid (Lib.IsBuilderF 145 5 w1 w1 (Lib.byteCells (aU aA xs (k+1))) w4):=by rw[a.out,kL];exact .inr h2
    have g:Ext w1 w4:=iH (Ext.trans l f) h3 (aRp _);have h:(w1:Nat)<w4:=aRo m h3.size;clear h2 h3;go_wp2;go_roundw
    case rel=>exact⟨k+1,by omega,by go_num,d.out,g,h⟩
    case measure=>simp[intOf];omega
   have k2:((k:Int)%aA==0)=false:=by simp[hm]
   have c:Hid (dJ aA k= [44]):=by show _=_;simp[dJ,hk0,hm]
   clear hk0 hm;go_wp2_with fail;refine(kZ w1 w1 (Lib.byteCells (aU aA xs k)) 44 _ s (by omega) (by omega)).mono ?_;rintro e w2 ⟨rfl,h2,h3,_⟩;have r:Hid (Lib.IsBuilderF 145 5 w1 w1 (Lib.byteCells (aU aA xs k++ [44])) w2):=by rw[iV _ 44 44 rfl];exact .inr h2
   have l:Ext w1 w2:=iH hE h3 (aRp _);have t:(w1:Nat)<w2:=aRo v h3.size;clear h2 h3;by_cases hz:x=0
   ·have z1:(x==0)=true:=by simp[hz]
    have a:Hid (aU aA xs (k+1)=aU aA xs k++ [44]++ [46]):=by show _=_;rw[j.out,c.out];simp[fL,hz]
    clear hz;go_wp2_with fail;refine(kZ w1 w1 (Lib.byteCells (aU aA xs k++ [44])) 46 _ r (by simp[Lib.byteCells]at o⊢;omega) (by omega)).mono ?_;rintro e w3 ⟨rfl,h2,h3,_⟩;have d:Hid (Lib.IsBuilderF 145 5 w1 w1 (Lib.byteCells (aU aA xs (k+1))) w3):=by rw[a.out,iV _ 46 46 rfl];exact .inr h2
    have g:Ext w1 w3:=iH l h3 (aRp _);have h:(w1:Nat)<w3:=aRo t h3.size;clear h2 h3;go_wp2;go_roundw
    case rel=>exact⟨k+1,by omega,by go_num,d.out,g,h⟩
    case measure=>simp[intOf];omega
   have z1:(x==0)=false:=by simp[hz]
   have a:Hid (aU aA xs (k+1)=aU aA xs k++ [44]++Lib.decDigits x.toNat):=by show _=_;rw[j.out,c.out];simp[fL,hz]
   clear hz;have af:(Lib.decDigits x.toNat).length≤21:=cS _ (by omega);go_wp2_with fail;refine Z (oO x _ aa (by omega) (z.out.ext (y.trans l))) fun w3 f=>?_
   have q:=xQ (pS r f);have m:(w1:Nat)<w3:=aRo t f.sz;go_wp2_with fail;refine(nD w1 w1 (Lib.byteCells (aU aA xs k++ [44])) _ _ q (by simp[Lib.byteCells,ByteArray.size]at o⊢;omega) (by omega)).mono ?_;rintro e w4 ⟨rfl,h2,h3,_⟩;have d:Hid (Lib.IsBuilderF 145 5 w1 w1 (Lib.byteCells (aU aA xs (k+1))) w4):=by rw[a.out,kL];exact .inr h2
   have g:Ext w1 w4:=iH (Ext.trans l f) h3 (aRp _);have h:(w1:Nat)<w4:=aRo m h3.size;clear h2 h3;go_wp2;go_roundw
   case rel=>exact⟨k+1,by omega,by go_num,d.out,g,h⟩
   case measure=>simp[intOf];omega
  obtain rfl:k=n:=by omega
  go_wp2_with fail;refine(Tryz.Builder_String_any_f w1 w1 (aU aA xs k) _ s (by omega)).mono ?_;rintro e w2 ⟨rfl,h2,h3⟩;have l:Ext w w2:=iH ad h3 (by omega);clear h2 h3;go_wp2;go_ret;exact⟨rfl,l⟩
end
theorem bN {aA aB:Int}{xs:List Int}(h:aO aA aB xs=true):2≤aA∧aA≤4∧2≤aB∧aB≤3∧4≤xs.length∧xs.length≤12∧(xs.length:Int)=aA*aB∧(∀x∈xs,0≤x∧x≤99)∧(xs.filter (fun x=>decide (0<x))).Nodup:=by simp only[aO,aRy]at h;obtain⟨h1,h2,h3,h4,h5,h6,h7⟩:=cE h.1;obtain⟨q1,_,q3⟩:=(fK _ _).1 h.2;exact⟨h1,h2,h3,h4,h5,h6,h7,q1,q3⟩
theorem sP (aA aB:Int)(p:OA)(n cap:Nat)(xs:List Int)(w:World)(hE:Env w)(hS:Sl w p n cap 1 (ivs xs)):
  U 88 #[aH aA aB p n cap] w (O (str (fH aA aB xs)) w):=by
 have hl:=hS.ilen;cases h:aO aA aB xs with
 |true=>obtain⟨h1,h2,h3,h4,h5,h6,h7,h8,h9⟩:=bN h;unfold fH;rw[if_pos h,hl];exact vV aA aB p n cap xs w hE h1 h2 (by omega) h8 hS (fun w' hx=>by rw[←h];exact fY aA aB p n cap xs w' (hS.ext hx))
 |false=>unfold fH;rw[if_neg (by simp[h])];exact uB aA aB p n cap w (fun w' hx=>by rw[←h];exact fY aA aB p n cap xs w' (hS.ext hx))
section
open Go.Proofs.Tryz
theorem aA9 (a b:Int)(w:World)(h0:0≤a)(h1:a≤1000)(h2:0≤b)(h3:b≤1000):U 208 #[a,b] w (O (I (qT a b)) w):=by go_enter func208,ntmps208;go_wp2;go_ret;exact⟨dV (by unfold qT;omega),by exact .refl _⟩
theorem aE7 (aA a b:Int)(w:World)(h0:0≤a)(h1:a≤100)(h2:0≤b)(h3:b≤100)(h4:2≤aA)(h5:aA≤4):U 173 #[aA,a,b] w (O (I (aX aA a b)) w):=by
 have q0: ¬(aA=0):=by omega
 have r1:a.tmod aA=a%aA:=IntWalk.rem_in _ _ h0;have r2:b.tmod aA=b%aA:=IntWalk.rem_in _ _ h2;have d1:IntKind.i64.wrap (a.tdiv aA)=a/aA:=aU2 _ _ (by omega);have d2:IntKind.i64.wrap (b.tdiv aA)=b/aA:=aU2 _ _ (by omega);have e1:=Int.emod_nonneg a q0;have e2:=Int.emod_nonneg b q0;have e3:=Int.emod_lt_of_pos a (show 0<aA by omega);have e4:=Int.emod_lt_of_pos b (show 0<aA by omega);have e5:=Int.ediv_nonneg h0 (show 0≤aA by omega);have e6:=Int.ediv_nonneg h2 (show 0≤aA by omega);have e7:=Int.ediv_le_self aA h0;have e8:=Int.ediv_le_self aA h2;have s1:IntKind.i64.wrap (qT (a%aA) (b%aA)+qT (a/aA) (b/aA))=aX aA a b:=aRr _ (by unfold qT;omega);go_enter func173,ntmps173;go_wp2;refine rL (gl [gEq (a:Int),gEq (aA:Int),gEq (a%aA:Int),gEq (b:Int),gEq (aA:Int),gEq (b%aA:Int),gEq (qT (a%aA) (b%aA):Int),gEq (a:Int),gEq (aA:Int),gEq (a/aA:Int),gEq (b:Int),gEq (aA:Int),gEq (b/aA:Int),gEq (qT (a/aA) (b/aA):Int),gEq (aX aA a b:Int)]) 15 16 [(0,some 7),(1,some 8),(2,some 9),(3,some 10),(4,some 11),(5,some 12),(6,some 13),(7,some 14),(8,some 15),(9,some 16),(10,some 17),(11,some 18),(12,some 19),(13,some 20),(14,some 21)] ?steps ?fin
 case steps=>
  refine sS0 [] (sS0 [] (sS2 [(0,some 7),(1,some 8)] (sS0 [] (sS0 [] (sS2 [(3,some 10),(4,some 11)] ?_)))));refine sC [(2,some 9),(5,some 12)] rfl (fun wi hx=> ?_) ?_
  ·intro v2 h2 v5 h5 K hK;subst h2 h5;go_wp2_with fail;refine Z (aA9 (a%aA) (b%aA) _ (by omega) (by omega) (by omega) (by omega)) fun w2 d=>?_
   go_simp;exact hK _ _ ⟨I (qT (a%aA) (b%aA)),rfl,rfl,d⟩
  refine sS0 [] (sS0 [] (sS2 [(7,some 14),(8,some 15)] (sS0 [] (sS0 [] (sS2 [(10,some 17),(11,some 18)] ?_)))));refine sC [(9,some 16),(12,some 19)] rfl (fun wi hx=> ?_) ?_
  ·intro v9 h9 j c K hK;obtain rfl:=h9;obtain rfl:=c;go_wp2_with fail;refine Z (aA9 (a/aA) (b/aA) _ (by omega) (by omega) (by omega) (by omega)) fun w2 d=>?_
   go_simp;exact hK _ _ ⟨I (qT (a/aA) (b/aA)),rfl,rfl,d⟩
  exact sS2 [(6,some 13),(13,some 20)] StepsL.nil
 case fin=>intro wi hx v0 h0 v1 h1 v2 h2 v3 h3 v4 h4 v5 h5 v6 h6 v7 h7 v8 h8 v9 h9 k f l g j c m h n i;subst h0 h1 h2 h3 h4 h5 h6 h7 h8 h9;obtain rfl:=f;obtain rfl:=g;obtain rfl:=c;obtain rfl:=h;obtain rfl:=i;refine wpAny_ready (rs:= [15]) (by kernel_rfl) (by simp) ?_;refine AllReady.cons rfl (fun K hK=> ?_) AllReady.nil;go_simp;refine hK _ _ ?_;clear hK K;refine wpAny_done (by kernel_rfl) ?_ _;go_wp2;go_ret;exact⟨rfl,by exact .trans (.drew (.refl _)) hx⟩
theorem sK (n lo hi:Int)(w:World):U 50 #[n,lo,hi] w fun e w'=>e= .returned (.bool (decide (lo≤n∧n≤hi)))∧w=w':=by
 by_cases h:lo≤n∧n≤hi
 ·rw[decide_eq_true h];exact nH n lo hi w h.1 h.2
 rw[decide_eq_false h];exact wB n lo hi w (by omega)
def dM (aA aB:Int)(xs:List Int)(a b:Int):Int:=if aO aA aB xs=true∧(0≤a∧a<xs.length)∧0≤b∧b<xs.length then aX aA a b else -1
theorem aG9 (aA aB a b:Int)(p:OA)(n cap:Nat)(w:World)(HV:xB 48 #[aH aA aB p n cap] w false):
  U 143 #[aH aA aB p n cap,a,b] w (O (I (-1)) w):=by
 go_enter func143,ntmps143;go_wp2_with fail;refine Z (HV _ (by exact .alloc (.refl _) _)) fun w1 c=>?_
 have X1:Ext w w1:=by exact .trans (.alloc (.refl _) _) c
 clear c;go_wp2;go_ret;exact⟨rfl,by exact X1⟩
theorem aMa (aA aB a b:Int)(p:OA)(n cap:Nat)(ba bb:Bool)(R:Int)(w:World)(d:4≤n)(hn:n≤12)(HV:xB 48 #[aH aA aB p n cap] w true)
  (HA:Hid (∀w,U 50 #[a,(),((n:Int)-1:Int)] w fun e w'=>e= .returned (.bool ba)∧w=w'))
  (HB:Hid (∀w,U 50 #[b,(),((n:Int)-1:Int)] w fun e w'=>e= .returned (.bool bb)∧w=w'))
  (HP:Hid (ba=true→bb=true→ ∀w,U 173 #[aA,a,b] w (O (I R) w))):
  U 143 #[aH aA aB p n cap,a,b] w fun e w'=>e= .returned (I (if ba&&bb then R else -1))∧Ext w w':=by
 go_enter func143,ntmps143;go_wp2_with fail;refine Z (HV _ (by exact .alloc (.refl _) _)) fun w1 c=>?_
 have B1:=xQ ((Blk.new w 31 #[aA,aB,.slice p n cap]).ext c);have X1:Ext w w1:=by exact .trans (.alloc (.refl _) _) c
 clear c;obtain⟨c0,c1,c2⟩:=B1.out.tri;cases ba
 ·go_wp2_with ((go_at_call 50;(with_reducible refine(HA _).mono ?_);rintro e w' ⟨rfl,rfl⟩));go_ret;exact⟨rfl,by exact X1⟩
 cases bb
 ·go_wp2_with fail;refine(HA _).mono ?_;rintro e w' ⟨rfl,rfl⟩;go_wp2_with fail;refine(HB _).mono ?_;rintro e w' ⟨rfl,rfl⟩;go_wp2;go_ret;exact⟨rfl,by exact X1⟩
 go_wp2_with fail;refine(HA _).mono ?_;rintro e w' ⟨rfl,rfl⟩;go_wp2_with fail;refine(HB _).mono ?_;rintro e w' ⟨rfl,rfl⟩;go_wp2_with fail;refine Z (HP (by simp) (by simp) _) fun w' hp=>?_
 go_wp2;go_ret;exact⟨rfl,by exact .trans X1 hp⟩
theorem aBk (aA aB a b:Int)(p:OA)(n cap:Nat)(xs:List Int)(w:World)(hS:Sl w p n cap 1 (ivs xs)):
  U 143 #[aH aA aB p n cap,a,b] w (O (I (dM aA aB xs a b)) w):=by
 have hl:=hS.ilen;have HV:=fun(w':World) (hx:Ext w w')=>gJ aA aB p n cap xs w' (hS.ext hx)
 unfold dM;cases hok:aO aA aB xs with
 |false=>rw[hok]at HV;simpa using aG9 aA aB a b p n cap w HV
 |true=>
  rw[hok]at HV;obtain⟨g1,g2,g3,g4,g5,g6,g7,g8,g9⟩:=bN hok
  have:=aMa aA aB a b p n cap (decide (0≤a∧a≤(n:Int)-1)) (decide (0≤b∧b≤(n:Int)-1)) (aX aA a b) w (by omega) (by omega) HV (fun w=>sK _ _ _ w) (fun w=>sK _ _ _ w)
   (fun h1 h2 w=>by simp at h1 h2;exact aE7 aA a b w h1.1 (by omega) h2.1 (by omega) (by omega) (by omega))
  refine this.mono fun e w' ⟨he,hx⟩=>⟨?_,hx⟩
  rw[he];apply dV;have e1:(decide (0≤a∧a≤(n:Int)-1)&&decide (0≤b∧b≤(n:Int)-1))=decide ((0≤a∧a<xs.length)∧0≤b∧b<xs.length):=by rw[Bool.eq_iff_iff];simp;omega
  rw[e1];by_cases h:(0≤a∧a<xs.length)∧0≤b∧b<xs.length
  ·rw[decide_eq_true h,if_pos rfl,if_pos ⟨rfl,h⟩]
  rw[decide_eq_false h,if_neg (by simp),if_neg (fun hh=>h hh.2)]
end
end Go.Proofs.YtbgkcehffiogcacGreatDoor
