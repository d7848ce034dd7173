/-
  Texts of this proof, packed (@packed).
-/
import Derived.Shelf.Strings.OnBuilder
import Derived.Test.YthfmmibomhhmpaaGreatDoorY24
namespace Go.Proofs.YthfmmibomhhmpaaGreatDoor
open Go.RowKit
set_option linter.unusedSimpArgs false
set_option linter.unusedVariables false
set_option maxHeartbeats 8000000
set_option maxRecDepth 100000
section
open Go.Proofs.Tryz
def kJ (p:List UInt8):Nat→Int
 |0=> -1
 |k+1=>if p=bV k then k else kJ p k
theorem vK (p:List UInt8):kJ p 5=(jE p).getD (-1):=by
 cases h:jE p with
 |none=>obtain⟨n1,n2,n3,n4,n5⟩:=qK h;simp only[beq_eq_false_iff_ne,ne_eq]at n1 n2 n3 n4 n5;simp[kJ,bV,n1,n2,n3,n4,n5]
 |some k=>rcases fR h with⟨rfl,rfl⟩|⟨rfl,rfl⟩|⟨rfl,rfl⟩|⟨rfl,rfl⟩|⟨rfl,rfl⟩<;>decide
theorem zA {p:List UInt8}{k:Nat}(h:p=bV k):kJ p (k+1)=k:=by simp[kJ,h]
theorem aD5 {p:List UInt8}{k:Nat}(h:p≠bV k):kJ p (k+1)=kJ p k:=by simp[kJ,h]
theorem sU {W0 wr:World}{B:Nat}(hg:W0.grownBy wr (some B))(o:Nat)(v:Value):W0.grownBy (wr.setCell ⟨B,o,none⟩ v) (some B):=
 ⟨hg.os,hg.tape,hg.output,by simpa using hg.size,fun k hk hne=>by rw[aVl _ _ _ _ (fun e=>hne (by simp[e]))];exact hg.block k hk hne⟩
theorem lB {W0 wr:World}{r:Option Nat}(hg:W0.grownBy wr r):W0.grownBy wr.drew r:=⟨hg.os,hg.tape,hg.output,hg.size,hg.block⟩
theorem pI {w W0 wr:World}{B:Nat}(h:Ext w W0)(hg:W0.grownBy wr (some B))(hB:w.heap.size≤B):Ext w wr:=h.grown hg (fun k hk=>by simp at hk;omega)
theorem h1' {w w1:World}{o o2:Obj}(h:Ext (w.alloc o) w1):Ext w (w1.alloc o2):=(((Ext.refl w).alloc o).trans h).alloc o2
theorem aKu (l:List UInt8)(w:World)(ps:List (List UInt8))(n:Nat)(p t:List UInt8)(hn:n=1)(af:1≤n)(ag:n≤1099511627777)
  (u:ps[0]? =some p)
  (HS:Hid (∀w,U 86 #[str l,.int .u8 32] w fun e w'=> ∃v,e= .returned v∧w'.ownsRow w 9 1 v n (iL ps)∧Ext w w'))
  (HD:Hid (∀w,U 41 #[eQ (kJ p 5) 0 0] w (O (str t) w))):
  U 49 #[str l] w (lV (if l≠ []∧t=l then some (kJ p 5,0,0)else none) w):=by
  obtain⟨o,ho⟩: ∃o:Option (Int×Int×Int),(if l≠ []∧t=l then some (kJ p 5,0,0)else none)=o:=⟨_,rfl⟩
  rw[ho];have HO:=xQ ho;clear ho;go_enter func49,ntmps49;go_wp2_with fail;refine(HS _).mono ?_;rintro e w1 ⟨v,rfl,a,h1⟩;obtain⟨g,ab,rfl⟩:=aUd a (by omega);have e0:=bF a 0 (by omega) _ u;have hg:=(a.lt g rfl).2;have c:(w:Nat)<w1:=aT4 (by simp) h1.sz;have ae:w.heap.size<g:=aT4 (by simp) (a.lt g rfl).1;obtain⟨m,q⟩:=h1.cells;clear a;go_wp2;go_loopw [6] (fun i wr=> ∃k:Nat,k≤5∧i=I k∧wr.heap[w1.heap.size]? =some (.cells #[(kJ p k:Int),(),()] 62 (0,0))∧(w1.alloc (.cells #[(-1:Int),(),()] 62)).grownBy wr (some w1)) (fun i _=>5-(intOf i).toNat)
  case atStart=>exact⟨0,by omega,rfl,by rw[heap_alloc_new];rfl,aUs _ _⟩
  case round=>
   obtain⟨k,hk,rfl,hB,b⟩:=hrel;have b0:wr.cell? ⟨w1,0,none⟩=some (I (kJ p k)):=aUy hB 0;have b1:wr.cell? ⟨w1,1,none⟩=some (I 0):=aUy hB 1;have b2:wr.cell? ⟨w1,2,none⟩=some (I 0):=aUy hB 2;have u0:=aUo hB 0;have u1:=aUo hB 1;have u2:=aUo hB 2;have HG:=xQ b;have h:=xQ hB;have x:=b.size;simp only[aVo]at x;have g0:wr.cell? ⟨g,0,none⟩=some (str p):=b.cell (by rw[aUk _ _ _ (by simpa using hg)];exact e0) (by simp;omega);have r0: ∀j,j<3→wr.cell? ⟨w,j,none⟩=some (I 0):=fun j hj=>b.cell (by rw[aUk _ _ _ (by simpa using c),m _ _ (by simp)];rcases(show j=0∨j=1∨j=2 by omega)with rfl|rfl|rfl<;>simp) (by simp;omega)
   have r1: ∀j,wr.frozen? ⟨w,j,none⟩=false:=fun j=>by rw[aV8 (w:=w1.alloc (.cells #[(-1:Int),(),()] 62)) (b.block _ (by simp;omega) (by simp;omega)),aV8 (aVp _ _ _ (by simpa using c)),q _ _ (by simp)];simp
   have ah:=r0 0 (by omega);have ai:=r0 1 (by omega);have aj:=r0 2 (by omega);have ak:=r1 0;have al:=r1 1;have am:=r1 2;clear b hB r0 r1 m q e0;by_cases hlt:k<5
   ·by_cases hpk:p=bV k
    ·have hb:(p==bV (k:Int))=true:=by simp[hpk]
     have d:=xQ hpk;clear hpk;go_wp2;go_region_held3 (fun w'=>w'.cell? ⟨g,0,none⟩=some (str p)) (go_keep) ((go_at_call 82;refine(iO k _ (by omega)).mono ?_;rintro e w2 ⟨rfl,rfl⟩));all_goals go_wp2
     all_goals go_roundw
     all_goals first
      |(case rel=>exact⟨k+1,by omega,by go_num,by rw[zA d.out];exact aVn h.out _,sU (lB HG.out) _ _⟩)
      |(case measure=>simp[intOf];omega)
    have hb:(p==bV (k:Int))=false:=by simp[hpk]
    have d:=xQ hpk;clear hpk;go_wp2;go_region_held3 (fun w'=>w'.cell? ⟨g,0,none⟩=some (str p)) (go_keep) ((go_at_call 82;refine(iO k _ (by omega)).mono ?_;rintro e w2 ⟨rfl,rfl⟩));all_goals go_wp2
    all_goals go_roundw
    all_goals first
     |(case rel=>exact⟨k+1,by omega,by go_num,by rw[aD5 d.out];exact h.out,lB HG.out⟩)
     |(case measure=>simp[intOf];omega)
   obtain rfl:k=5:=by omega
   have ad:Ext w wr:=pI (h1' h1) HG (by omega);by_cases h0:l= []
   ·have hl:l.isEmpty=true:=by simp[h0]
    obtain rfl:none=o:=by have e:=HO.out;rwa[if_neg (by simp[h0])]at e
    clear h0;go_wp2;exact bodyPost_ret (v:=rdV none) (by simp[results,results49,go_sem, *];rfl) rfl ⟨rfl,xE⟩
   have hl:l.isEmpty=false:=by simp[h0]
   by_cases hh:t=l
   ·have ht:(t==l)=true:=by simp[hh]
    obtain rfl:some (kJ p 5,0,0)=o:=by have e:=HO.out;rwa[if_pos ⟨h0,hh⟩]at e
    clear h0 hh;go_wp2_with fail;refine Z (HD _) fun w2 h2=>?_
    obtain⟨r,s⟩:=h2.cells;have f:(w1:Nat)<w2:=aT4 (by first|omega|(simp;omega)) h2.sz;have y:(w:Nat)<w2:=aV4 c f;have z:(w1:Nat)<wr:=by omega
    have aa:(w:Nat)<wr:=by omega
    go_wp2;exact bodyPost_ret (v:=rdV (some (_,0,0))) (by simp[results,results49,go_sem, *];rfl) rfl ⟨rfl,xE⟩
   have ht:(t==l)=false:=by simp[hh]
   obtain rfl:none=o:=by have e:=HO.out;rwa[if_neg (by simp[hh])]at e
   clear h0 hh;go_wp2_with fail;refine Z (HD _) fun w2 h2=>?_
   obtain⟨r,s⟩:=h2.cells;have f:(w1:Nat)<w2:=aT4 (by first|omega|(simp;omega)) h2.sz;have y:(w:Nat)<w2:=aV4 c f;have z:(w1:Nat)<wr:=by omega
   have aa:(w:Nat)<wr:=by omega
   go_wp2;exact bodyPost_ret (v:=rdV none) (by simp[results,results49,go_sem, *];rfl) rfl ⟨rfl,xE⟩
theorem aKt (l:List UInt8)(w:World)(ps:List (List UInt8))(n:Nat)(p q t:List UInt8)(a:Int)(hn:n=2)(ai:1≤n)(aj:n≤1099511627777)
  (y:ps[0]? =some p) (z:ps[1]? =some q)
  (HS:Hid (∀w,U 86 #[str l,.int .u8 32] w fun e w'=> ∃v,e= .returned v∧w'.ownsRow w 9 1 v n (iL ps)∧Ext w w'))
  (HR:Hid (∀w,U 87 #[str q] w fun e w'=>e= .returned (I a)∧w=w'))
  (HD:Hid (∀w,U 41 #[eQ (kJ p 5) a 0] w (O (str t) w))):
  U 49 #[str l] w (lV (if l≠ []∧t=l then some (kJ p 5,a,0)else none) w):=by
  obtain⟨o,ho⟩: ∃o:Option (Int×Int×Int),(if l≠ []∧t=l then some (kJ p 5,a,0)else none)=o:=⟨_,rfl⟩
  rw[ho];have HO:=xQ ho;clear ho;go_enter func49,ntmps49;go_wp2_with fail;refine(HS _).mono ?_;rintro e w1 ⟨v,rfl,b,h1⟩;obtain⟨g,af,rfl⟩:=aUd b (by omega);have e0:=bF b 0 (by omega) _ y;have e1:=bF b 1 (by omega) _ z;have hg:=(b.lt g rfl).2;have d:(w:Nat)<w1:=aT4 (by simp) h1.sz;have ah:w.heap.size<g:=aT4 (by simp) (b.lt g rfl).1;obtain⟨r,s⟩:=h1.cells;clear b;go_wp2;go_loopw [6] (fun i wr=> ∃k:Nat,k≤5∧i=I k∧wr.heap[w1.heap.size]? =some (.cells #[(kJ p k:Int),(),()] 62 (0,0))∧(w1.alloc (.cells #[(-1:Int),(),()] 62)).grownBy wr (some w1)) (fun i _=>5-(intOf i).toNat)
  case atStart=>exact⟨0,by omega,rfl,by rw[heap_alloc_new];rfl,aUs _ _⟩
  case round=>
   obtain⟨k,hk,rfl,hB,c⟩:=hrel;have b0:wr.cell? ⟨w1,0,none⟩=some (I (kJ p k)):=aUy hB 0;have b1:wr.cell? ⟨w1,1,none⟩=some (I 0):=aUy hB 1;have b2:wr.cell? ⟨w1,2,none⟩=some (I 0):=aUy hB 2;have u0:=aUo hB 0;have u1:=aUo hB 1;have u2:=aUo hB 2;have HG:=xQ c;have m:=xQ hB;have aa:=c.size;simp only[aVo]at aa;have g0:wr.cell? ⟨g,0,none⟩=some (str p):=c.cell (by rw[aUk _ _ _ (by simpa using hg)];exact e0) (by simp;omega);have g1:wr.cell? ⟨g,1,none⟩=some (str q):=c.cell (by rw[aUk _ _ _ (by simpa using hg)];exact e1) (by simp;omega);have r0: ∀j,j<3→wr.cell? ⟨w,j,none⟩=some (I 0):=fun j hj=>c.cell (by rw[aUk _ _ _ (by simpa using d),r _ _ (by simp)];rcases(show j=0∨j=1∨j=2 by omega)with rfl|rfl|rfl<;>simp) (by simp;omega)
   have r1: ∀j,wr.frozen? ⟨w,j,none⟩=false:=fun j=>by rw[aV8 (w:=w1.alloc (.cells #[(-1:Int),(),()] 62)) (c.block _ (by simp;omega) (by simp;omega)),aV8 (aVp _ _ _ (by simpa using d)),s _ _ (by simp)];simp
   have ak:=r0 0 (by omega);have al:=r0 1 (by omega);have am:=r0 2 (by omega);have an:=r1 0;have ao:=r1 1;have ap:=r1 2;clear c hB r0 r1 r s e0;by_cases hlt:k<5
   ·by_cases hpk:p=bV k
    ·have hb:(p==bV (k:Int))=true:=by simp[hpk]
     have f:=xQ hpk;clear hpk;go_wp2;go_region_held3 (fun w'=>w'.cell? ⟨g,0,none⟩=some (str p)) (go_keep) ((go_at_call 82;refine(iO k _ (by omega)).mono ?_;rintro e w2 ⟨rfl,rfl⟩));all_goals go_wp2
     all_goals go_roundw
     all_goals first
      |(case rel=>exact⟨k+1,by omega,by go_num,by rw[zA f.out];exact aVn m.out _,sU (lB HG.out) _ _⟩)
      |(case measure=>simp[intOf];omega)
    have hb:(p==bV (k:Int))=false:=by simp[hpk]
    have f:=xQ hpk;clear hpk;go_wp2;go_region_held3 (fun w'=>w'.cell? ⟨g,0,none⟩=some (str p)) (go_keep) ((go_at_call 82;refine(iO k _ (by omega)).mono ?_;rintro e w2 ⟨rfl,rfl⟩));all_goals go_wp2
    all_goals go_roundw
    all_goals first
     |(case rel=>exact⟨k+1,by omega,by go_num,by rw[aD5 f.out];exact m.out,lB HG.out⟩)
     |(case measure=>simp[intOf];omega)
   obtain rfl:k=5:=by omega
   have ag:Ext w wr:=pI (h1' h1) HG (by omega);go_wp2_with fail;refine(HR _).mono ?_;rintro e w2 ⟨rfl,rfl⟩;by_cases h0:l= []
   ·have hl:l.isEmpty=true:=by simp[h0]
    obtain rfl:none=o:=by have e:=HO.out;rwa[if_neg (by simp[h0])]at e
    clear h0;go_wp2;exact bodyPost_ret (v:=rdV none) (by simp[results,results49,go_sem, *];rfl) rfl ⟨rfl,xE⟩
   have hl:l.isEmpty=false:=by simp[h0]
   by_cases hh:t=l
   ·have ht:(t==l)=true:=by simp[hh]
    obtain rfl:some (kJ p 5,a,0)=o:=by have e:=HO.out;rwa[if_pos ⟨h0,hh⟩]at e
    clear h0 hh;go_wp2_with fail;refine Z (HD _) fun w2 h2=>?_
    obtain⟨u,x⟩:=h2.cells;have h:(w1:Nat)<w2:=aT4 (by first|omega|(simp;omega)) h2.sz;have ab:(w:Nat)<w2:=aV4 d h;have ad:(w1:Nat)<wr:=by omega
    have ae:(w:Nat)<wr:=by omega
    go_wp2;exact bodyPost_ret (v:=rdV (some (_,a,0))) (by simp[results,results49,go_sem, *];rfl) rfl ⟨rfl,xE⟩
   have ht:(t==l)=false:=by simp[hh]
   obtain rfl:none=o:=by have e:=HO.out;rwa[if_neg (by simp[hh])]at e
   clear h0 hh;go_wp2_with fail;refine Z (HD _) fun w2 h2=>?_
   obtain⟨u,x⟩:=h2.cells;have h:(w1:Nat)<w2:=aT4 (by first|omega|(simp;omega)) h2.sz;have ab:(w:Nat)<w2:=aV4 d h;have ad:(w1:Nat)<wr:=by omega
   have ae:(w:Nat)<wr:=by omega
   go_wp2;exact bodyPost_ret (v:=rdV none) (by simp[results,results49,go_sem, *];rfl) rfl ⟨rfl,xE⟩
theorem aKs (l:List UInt8)(w:World)(ps:List (List UInt8))(n:Nat)(p q r t:List UInt8)(a b:Int)(hn:3≤n)(am:1≤n)(an:n≤1099511627777)
  (ab:ps[0]? =some p) (ad:ps[1]? =some q) (ae:ps[2]? =some r)
  (HS:Hid (∀w,U 86 #[str l,.int .u8 32] w fun e w'=> ∃v,e= .returned v∧w'.ownsRow w 9 1 v n (iL ps)∧Ext w w'))
  (HR:Hid (∀w,U 87 #[str q] w fun e w'=>e= .returned (I a)∧w=w'))
  (y:Hid (∀w,U 87 #[str r] w fun e w'=>e= .returned (I b)∧w=w'))
  (HD:Hid (∀w,U 41 #[eQ (kJ p 5) a b] w (O (str t) w))):
  U 49 #[str l] w (lV (if l≠ []∧t=l then some (kJ p 5,a,b)else none) w):=by
  obtain⟨o,ho⟩: ∃o:Option (Int×Int×Int),(if l≠ []∧t=l then some (kJ p 5,a,b)else none)=o:=⟨_,rfl⟩
  rw[ho];have HO:=xQ ho;clear ho;go_enter func49,ntmps49;go_wp2_with fail;refine(HS _).mono ?_;rintro e w1 ⟨v,rfl,c,h1⟩;obtain⟨g,aj,rfl⟩:=aUd c (by omega);have ao:(0:Int)<(n:Int):=by omega
  have ap:0<n:=by omega
  have e0:=bF c 0 (by omega) _ ab;have e1:=bF c 1 (by omega) _ ad;have e2:=bF c 2 (by omega) _ ae;have hg:=(c.lt g rfl).2;have f:(w:Nat)<w1:=aT4 (by simp) h1.sz;have al:w.heap.size<g:=aT4 (by simp) (c.lt g rfl).1;obtain⟨u,x⟩:=h1.cells;clear c;go_wp2;go_loopw [6] (fun i wr=> ∃k:Nat,k≤5∧i=I k∧wr.heap[w1.heap.size]? =some (.cells #[(kJ p k:Int),(),()] 62 (0,0))∧(w1.alloc (.cells #[(-1:Int),(),()] 62)).grownBy wr (some w1)) (fun i _=>5-(intOf i).toNat)
  case atStart=>exact⟨0,by omega,rfl,by rw[heap_alloc_new];rfl,aUs _ _⟩
  case round=>
   obtain⟨k,hk,rfl,hB,d⟩:=hrel;have b0:wr.cell? ⟨w1,0,none⟩=some (I (kJ p k)):=aUy hB 0;have b1:wr.cell? ⟨w1,1,none⟩=some (I 0):=aUy hB 1;have b2:wr.cell? ⟨w1,2,none⟩=some (I 0):=aUy hB 2;have u0:=aUo hB 0;have u1:=aUo hB 1;have u2:=aUo hB 2;have HG:=xQ d;have s:=xQ hB;have af:=d.size;simp only[aVo]at af;have g0:wr.cell? ⟨g,0,none⟩=some (str p):=d.cell (by rw[aUk _ _ _ (by simpa using hg)];exact e0) (by simp;omega);have g1:wr.cell? ⟨g,1,none⟩=some (str q):=d.cell (by rw[aUk _ _ _ (by simpa using hg)];exact e1) (by simp;omega);have g2:wr.cell? ⟨g,2,none⟩=some (str r):=d.cell (by rw[aUk _ _ _ (by simpa using hg)];exact e2) (by simp;omega);have r0: ∀j,j<3→wr.cell? ⟨w,j,none⟩=some (I 0):=fun j hj=>d.cell (by rw[aUk _ _ _ (by simpa using f),u _ _ (by simp)];rcases(show j=0∨j=1∨j=2 by omega)with rfl|rfl|rfl<;>simp) (by simp;omega)
   have r1: ∀j,wr.frozen? ⟨w,j,none⟩=false:=fun j=>by rw[aV8 (w:=w1.alloc (.cells #[(-1:Int),(),()] 62)) (d.block _ (by simp;omega) (by simp;omega)),aV8 (aVp _ _ _ (by simpa using f)),x _ _ (by simp)];simp
   have aq:=r0 0 (by omega);have ar:=r0 1 (by omega);have au:=r0 2 (by omega);have av:=r1 0;have aw:=r1 1;have ax:=r1 2;clear d hB r0 r1 u x e0;by_cases hlt:k<5
   ·by_cases hpk:p=bV k
    ·have hb:(p==bV (k:Int))=true:=by simp[hpk]
     have h:=xQ hpk;clear hpk;go_wp2;go_region_held3 (fun w'=>w'.cell? ⟨g,0,none⟩=some (str p)) (go_keep) ((go_at_call 82;refine(iO k _ (by omega)).mono ?_;rintro e w2 ⟨rfl,rfl⟩));all_goals go_wp2
     all_goals go_roundw
     all_goals first
      |(case rel=>exact⟨k+1,by omega,by go_num,by rw[zA h.out];exact aVn s.out _,sU (lB HG.out) _ _⟩)
      |(case measure=>simp[intOf];omega)
    have hb:(p==bV (k:Int))=false:=by simp[hpk]
    have h:=xQ hpk;clear hpk;go_wp2;go_region_held3 (fun w'=>w'.cell? ⟨g,0,none⟩=some (str p)) (go_keep) ((go_at_call 82;refine(iO k _ (by omega)).mono ?_;rintro e w2 ⟨rfl,rfl⟩));all_goals go_wp2
    all_goals go_roundw
    all_goals first
     |(case rel=>exact⟨k+1,by omega,by go_num,by rw[aD5 h.out];exact s.out,lB HG.out⟩)
     |(case measure=>simp[intOf];omega)
   obtain rfl:k=5:=by omega
   have ak:Ext w wr:=pI (h1' h1) HG (by omega);go_wp2_with fail;refine(HR _).mono ?_;rintro e w2 ⟨rfl,rfl⟩;go_wp2_with fail;refine(y _).mono ?_;rintro e w2 ⟨rfl,rfl⟩;by_cases h0:l= []
   ·have hl:l.isEmpty=true:=by simp[h0]
    obtain rfl:none=o:=by have e:=HO.out;rwa[if_neg (by simp[h0])]at e
    clear h0;go_wp2;exact bodyPost_ret (v:=rdV none) (by simp[results,results49,go_sem, *];rfl) rfl ⟨rfl,xE⟩
   have hl:l.isEmpty=false:=by simp[h0]
   by_cases hh:t=l
   ·have ht:(t==l)=true:=by simp[hh]
    obtain rfl:some (kJ p 5,a,b)=o:=by have e:=HO.out;rwa[if_pos ⟨h0,hh⟩]at e
    clear h0 hh;go_wp2_with fail;refine Z (HD _) fun w2 h2=>?_
    obtain⟨z,aa⟩:=h2.cells;have m:(w1:Nat)<w2:=aT4 (by first|omega|(simp;omega)) h2.sz;have ag:(w:Nat)<w2:=aV4 f m;have ah:(w1:Nat)<wr:=by omega
    have ai:(w:Nat)<wr:=by omega
    go_wp2;exact bodyPost_ret (v:=rdV (some (_,a,b))) (by simp[results,results49,go_sem, *];rfl) rfl ⟨rfl,xE⟩
   have ht:(t==l)=false:=by simp[hh]
   obtain rfl:none=o:=by have e:=HO.out;rwa[if_neg (by simp[hh])]at e
   clear h0 hh;go_wp2_with fail;refine Z (HD _) fun w2 h2=>?_
   obtain⟨z,aa⟩:=h2.cells;have m:(w1:Nat)<w2:=aT4 (by first|omega|(simp;omega)) h2.sz;have ag:(w:Nat)<w2:=aV4 f m;have ah:(w1:Nat)<wr:=by omega
   have ai:(w:Nat)<wr:=by omega
   go_wp2;exact bodyPost_ret (v:=rdV none) (by simp[results,results49,go_sem, *];rfl) rfl ⟨rfl,xE⟩
end
theorem aIf (q:List UInt8)(hq:q.length≤maxLen)(w:World):U 87 #[str q] w fun e w'=>e= .returned (I ((dY 4 q).getD (-1)))∧w=w':=
 yY ⟨q.toArray⟩ w (by simpa[ByteArray.size]using hq)
theorem oP (l:List UInt8)(d:Int×Int×Int)(h:jN (cR 32 l)=d):mP l=if l≠ []∧bI d.1 d.2.1 d.2.2=l then some d else none:=by unfold mP;rw[h]
theorem aCd (l:List UInt8)(w:World)(hs:l.length≤1099511627776):U 49 #[str l] w (lV (bQ l) w):=by
 rw[←aEe]
 have hS: ∀w,U 86 #[str l,.int .u8 32] w fun e w'=> ∃v,e= .returned v∧w'.ownsRow w 9 1 v (cR 32 l).length (iL (cR 32 l))∧Ext w w':=
  fun w=>aBk ⟨l.toArray⟩ 32 32 rfl w (by simpa[ByteArray.size]using hs)
 have f:=zW 32 l;have d:(cR 32 l).length≤1099511627777:=by omega
 have c: ∀q∈cR 32 l,Hid (∀w,U 87 #[str q] w fun e w'=>e= .returned (I ((dY 4 q).getD (-1)))∧w=w'):=
  fun q hq w=>aIf q (by have:=f.1 q hq;unfold maxLen;omega) w
 have hD: ∀k a b,Hid (∀w,U 41 #[eQ k a b] w (O (str (bI k a b)) w)):=fun k a b w=>aEo k a b w
 rcases hc:cR 32 l with _|⟨p,_|⟨q,_|⟨r,g⟩⟩⟩
 ·exact absurd hc (lF 32 l)
 ·rw[oP l (kJ p 5,0,0) (by rw[hc,vK];rfl)];rw[hc]at hS c;exact aKu l w [p] 1 p _ rfl (by omega) (by omega) rfl hS (hD _ _ _)
 ·rw[oP l (kJ p 5,(dY 4 q).getD (-1),0) (by rw[hc,vK];rfl)];rw[hc]at hS c;exact aKt l w [p,q] 2 p q _ _ rfl (by omega) (by omega) rfl rfl hS (c q (by simp)) (hD _ _ _)
 rw[oP l (kJ p 5,(dY 4 q).getD (-1),(dY 4 r).getD (-1)) (by rw[hc,vK];rfl)];rw[hc]at hS c d;exact aKs l w (p::q::r::g) _ p q r _ _ _ (by simp) (by simp) d rfl rfl rfl hS (c q (by simp)) (c r (by simp)) (hD _ _ _)
section
open Go.ChangeShapes Go.WideShapes Go.ChangeAt Go.Deep
def RdZ (w:World)(v:Value)(n sz:Nat)(cs:List Value):Prop:=
 (n=0∧cs= []∧ ∃p cap,v= .slice p 0 cap)∨(0<n∧ ∃b off cap,v= .slice (some ⟨b,off,none⟩) n cap∧b<w.heap.size∧Rd w v n sz cs)
theorem RdZ.ext {w w':World}{v:Value}{n sz:Nat}{cs:List Value}(h:RdZ w v n sz cs)(hx:Ext w w'):RdZ w' v n sz cs:=by
 rcases h with h|⟨h0,b,c,a,rfl,hb,h⟩
 ·exact .inl h
 exact .inr ⟨h0,b,c,a,rfl,aT4 hb hx.sz,h.ext hx⟩
section
variable {H:Type} {enc:TypeId×Value→H} {w:World} {base:Nat} {spare:Nat→Bool} {held:Bool} {b0:Nat} {r:Reach} {v:Value} {d:DataW H} {p:List MemPlace}
end
end
section
open Go.Proofs.Tryz
def aQ7 (R k:Nat)(w:World)(e:Ending)(w':World):Prop:= ∃s:ByteArray,e= .returned (.string s)∧s.size≤80∧Rand w' R (k+100)∧ExtR R w w'
theorem aOf (a:Int)(h0:0≤a)(h1:a<6): ∃x:ByteArray,(#[.string ⟨#[104,97,108,108]⟩,.string ⟨#[99,108,111,99,107]⟩,.string ⟨#[98,97,110,107]⟩,.string ⟨#[111,119,101,100]⟩,.string ⟨#[104,111,117,115,101]⟩,.string ⟨#[101,110,100]⟩]:Array Value)[a.toNat]? =some (.string x)∧x.size≤8:=by rcases(show a=0∨a=1∨a=2∨a=3∨a=4∨a=5 by omega)with rfl|rfl|rfl|rfl|rfl|rfl;all_goals exact⟨_,rfl,by decide⟩
theorem aI9 (a:Int)(h0:0≤a)(h1:a<8): ∃x:ByteArray,(#[.string ⟨#[]⟩,.string ⟨#[105,110]⟩,.string ⟨#[105,110,32,48,49]⟩,.string ⟨#[100,117,101,32,120]⟩,.string ⟨#[109,97,121]⟩,.string ⟨#[32,104,97,108,108]⟩,.string ⟨#[111,117,116,32,55,32,55]⟩,.string ⟨#[112,97,121,32,55]⟩]:Array Value)[a.toNat]? =some (.string x)∧x.size≤8:=by rcases(show a=0∨a=1∨a=2∨a=3∨a=4∨a=5∨a=6∨a=7 by omega)with rfl|rfl|rfl|rfl|rfl|rfl|rfl|rfl;all_goals exact⟨_,rfl,by decide⟩
theorem aOe (a:Int)(h0:0≤a)(h1:a<2): ∃x:ByteArray,(#[.string ⟨#[100,117,101,32]⟩,.string ⟨#[109,97,121,32]⟩]:Array Value)[a.toNat]? =some (.string x)∧x.size≤8:=by rcases(show a=0∨a=1 by omega)with rfl|rfl;all_goals exact⟨_,rfl,by decide⟩
theorem aFa (R k:Nat)(h:aL)(p:OA)(f:Nat)(q:OA)(c2:Nat)(w:World)(hr:Rand w R k)(hk:k≤1000000)(hs:h.cells.length≤100∧h.vs.length≤1000)
  (hi:IsHouse w h p h.cells.length f q h.vs.length c2)(hp:0<h.cells.length→ ∀b off,p=some ⟨b,off,none⟩→b≠R)(hq:0<h.vs.length→ ∀b off,q=some ⟨b,off,none⟩→b≠R):
  U 17 #[.pointer (some ⟨R,0,none⟩),bG h p h.cells.length f q h.vs.length c2] w (aQ7 R k w):=by
 have hR:=hr.lt;go_enter func17,ntmps17;go_wp2_with fail;refine(cK R k 6 _ (hr.ext xE) (by omega)).mono ?_;rintro e w1 ⟨c,rfl,c0,c1,r1,x1⟩;have X1:=xQ (show ExtR R w w1 from xR);have B1:=xQ (show Blk w1 w aK #[h.aA,h.aB,.slice p h.cells f,h.free,h.step,h.aD,h.aF,h.aC,h.aG,.slice q h.vs c2]from x1.blk (Blk.new w _ _) (by omega));clear x1;have i:=r1.lt;rcases(show c=0∨c=1∨c=2∨(3≤c∧c<6) by omega)with rfl|rfl|rfl|hc
 ·go_wp2_with fail;refine(cK R (k+1) 6 _ (r1.alloc _) (by omega)).mono ?_;rintro e w6 ⟨d,rfl,d0,d1,r6,x6⟩;obtain⟨x,hx,o⟩:=aOf d d0 (by omega);have gl:w6.cell? ⟨w1,d.toNat,none⟩=some (.string x):=((x6.blk (Blk.new w1 _ _) (Nat.ne_of_gt i)).cell d.toNat).trans hx;go_wp2;go_ret;exact⟨_,rfl,by omega,r6.mono (by omega),X1.out.trans (((ExtR.refl _ _).alloc _).trans x6)⟩
 ·go_wp2_with fail;refine(cK R (k+1) 8 _ (r1.alloc _) (by omega)).mono ?_;rintro e w6 ⟨d,rfl,d0,d1,r6,x6⟩;obtain⟨x,hx,o⟩:=aI9 d d0 (by omega);have gl:w6.cell? ⟨w1,d.toNat,none⟩=some (.string x):=((x6.blk (Blk.new w1 _ _) (Nat.ne_of_gt i)).cell d.toNat).trans hx;go_wp2;go_ret;exact⟨_,rfl,by omega,r6.mono (by omega),X1.out.trans (((ExtR.refl _ _).alloc _).trans x6)⟩
 ·skip;go_upto_region 7 with fail;refine qE (gl [aDr w1 9 #[.string ⟨#[100,117,101,32]⟩,.string ⟨#[109,97,121,32]⟩] 2,gEq (.pointer (some ⟨R,0,none⟩)),aG8 (2),(fun v w'=> ∃g x:Nat,v= .pointer (some ⟨g,x,none⟩)∧x<2∧w1.heap.size≤g∧Blk w' g 9 #[.string ⟨#[100,117,101,32]⟩,.string ⟨#[109,97,121,32]⟩]),(fun v _=> ∃x:ByteArray,v= .string x∧x.size≤8),gEq (.pointer (some ⟨R,0,none⟩)),aG8 (12),(fun v _=> ∃a:Int,v=I a∧1≤a∧a≤12),(fun v _=> ∃x:ByteArray,v= .string x∧x.size≤21),(fun v _=> ∃x:ByteArray,v= .string x∧x.size≤29)]) R (k+1) 1 10 (by kernel_rfl) rfl (by kernel_rfl) (by kernel_rfl) (by kernel_rfl) r1 (zL (bR (zM (by omega) _ _ _) (bR (fH _) (bR (jL _) (bR (fun v w w' ⟨g,x,h1,h2,h3,h4⟩ hx=>⟨g,x,h1,h2,h3,ExtR.blk hx h4 (by omega)⟩) (bR (fun _ _ _ h _=>h) (bR (fH _) (bR (jL _) (bR (fun _ _ _ h _=>h) (bR (fun _ _ _ h _=>h) (bR (fun _ _ _ h _=>h) (aDq)))))))))))) rfl (k:=11) (by kernel_rfl) (by decide) (ls:= [(0,some 23),(1,some 24),(2,some 25),(3,some 26),(4,some 27),(5,some 28),(6,some 29),(7,some 30),(8,some 31),(9,some 32)]) (by kernel_rfl) (ir:= [0,1,2,3,4,5,6,7,8,9]) (by kernel_rfl) ?steps (tl:=#[true,true,true,true,true,true,true,true,true,true,false]) (by kernel_rfl) ?fin
  case steps=>
   refine sCr [] rfl (fun wi kk hx hr hkk=> ?_) ?_
   ·intro K hK;go_simp;exact hK _ _ ⟨.slice (some ⟨wi,0,none⟩) 2 2,rfl,⟨wi.heap.size,rfl,by have:=hx.sz;simp at this;omega,Blk.new _ _ _⟩,(gE hr ((Ext.refl _).alloc _))⟩
   refine sSr0 [] ?_;refine sCr [(1,some 24)] rfl (fun wi kk hx hr hkk=> ?_) ?_
   ·intro v1 h1 K hK;obtain rfl:=h1;go_wp2_with fail;refine(cK R kk (2) _ hr (by omega)).mono ?_;rintro e w5 ⟨x,rfl,xa,xb,r5,x5⟩;go_simp;exact hK _ _ ⟨I x,rfl,⟨x,rfl,xa,by have hp:(0:Int)<2:=(by omega);omega⟩,⟨x5,r5⟩⟩
   refine sCr [(0,some 23),(2,some 25)] rfl (fun wi kk hx hr hkk=> ?_) ?_
   ·intro v0 h0 v2 h2 K hK;obtain⟨g0,rfl,j,B0⟩:=h0;obtain⟨x2,rfl,l,m⟩:=h2;obtain⟨xn,rfl⟩:=aTw l;have i1:(xn:Int)<2:=m;go_simp;exact hK _ _ ⟨_,rfl,⟨g0,xn,rfl,by omega,j,B0⟩,(gE hr (Ext.refl _))⟩
   refine sCr [(3,some 26)] rfl (fun wi kk hx hr hkk=> ?_) ?_
   ·intro v3 h3 K hK;obtain⟨g3,x3,rfl,aa,n,B3⟩:=h3;obtain⟨y,hy,t⟩:=aOe (x3:Int) (by omega) (by omega);have c:=(B3.cell x3).trans hy;go_simp;exact hK _ _ ⟨_,rfl,⟨y,rfl,t⟩,(gE hr (Ext.refl _))⟩
   refine sSr0 [] ?_;refine sCr [(5,some 28)] rfl (fun wi kk hx hr hkk=> ?_) ?_
   ·intro v5 h5 K hK;obtain rfl:=h5;go_wp2_with fail;refine(cK R kk (12) _ hr (by omega)).mono ?_;rintro e w5 ⟨x,rfl,xa,xb,r5,x5⟩;go_simp;exact hK _ _ ⟨I x,rfl,⟨x,rfl,xa,by have hp:(0:Int)<12:=(by omega);omega⟩,⟨x5,r5⟩⟩
   refine sCr [(6,some 29)] rfl (fun wi kk hx hr hkk=> ?_) ?_
   ·intro v6 h6 K hK;obtain⟨x6,rfl,u,ab⟩:=h6;have hw:=aVw (1+x6);go_simp;exact hK _ _ ⟨_,rfl,⟨_,rfl,by omega,by omega⟩,(gE hr (Ext.refl _))⟩
   refine sCr [(7,some 30)] rfl (fun wi kk hx hr hkk=> ?_) ?_
   ·intro v7 h7 K hK;obtain⟨x7,rfl,z,ad⟩:=h7;go_wp2_with fail;refine Z (jS x7 _ (by omega) (by omega)) fun w5 x5=>?_
    go_simp;exact hK _ _ ⟨_,rfl,⟨_,rfl,by rw[aF8];exact cQ _ (by omega)⟩,(gE hr x5)⟩
   refine sCr [(4,some 27),(8,some 31)] rfl (fun wi kk hx hr hkk=> ?_) StepsLR.nil
   ·intro v4 h4 v8 h8 K hK;obtain⟨s4,rfl,z4⟩:=h4;obtain⟨s8,rfl,z8⟩:=h8;have hz:=aVx (s4.size+s8.size);go_simp;exact hK _ _ ⟨_,rfl,⟨_,rfl,by simp only[ByteArray.size_append];omega⟩,(gE hr (Ext.refl _))⟩
  case fin=>
   intro wi hx hr v0 h0 v1 h1 v2 h2 v3 h3 v4 h4 v5 h5 v6 h6 v7 h7 v8 h8 v9 h9;obtain⟨g0,rfl,j,B0⟩:=h0;obtain rfl:=h1;obtain⟨x2,rfl,l,m⟩:=h2;obtain⟨g3,x3,rfl,aa,n,B3⟩:=h3;obtain⟨s4,rfl,z4⟩:=h4;obtain rfl:=h5;obtain⟨x6,rfl,u,ab⟩:=h6;obtain⟨x7,rfl,z,ad⟩:=h7;obtain⟨s8,rfl,z8⟩:=h8;obtain⟨s9,rfl,z9⟩:=h9;refine wpAny_ready (rs:= [10]) (by kernel_rfl) (by simp) ?_;refine AllReady.cons rfl (fun K hK=> ?_) AllReady.nil;go_simp;refine hK _ _ ?_;clear hK K;refine wpAny_done (by kernel_rfl) ?_ _;try go_frame
   go_wp2;go_ret;exact⟨s9,rfl,by omega,hr.mono (by omega),X1.out.trans hx.of_drew⟩
 have t0:(c==0)=false:=by simp;omega
 have t1:(c==1)=false:=by simp;omega
 have t2:(c==2)=false:=by simp;omega
 have k_:=B1.out.ten;go_wp2_with fail;refine(oE R (k+1) h p f q c2 _ r1 (by omega) hs ⟨X1.out.sl (b0:=0) hi.cells hp,X1.out.sl (b0:=0) hi.vs hq⟩ hp hq).mono ?_;rintro e w2 ⟨da,db,dc,rfl,r2,x2⟩;clear k_;go_wp2_with fail;refine Z (aEo da db dc _) fun w3 x3=>?_
 have hl:=aDz da db dc;obtain⟨s,hs,ae⟩: ∃s:ByteArray,str (bI da db dc)= .string s∧s.size=(bI da db dc).length:=⟨_,rfl,aF8 _⟩
 rw[hs];go_wp2;go_ret;exact⟨s,rfl,by omega,(r2.ext x3).mono (by omega),X1.out.trans (x2.trans (x3.r R))⟩
def lP:Go.Shelf.Ren:=⟨fun|156=>106|165=>144|166=>56|169=>57|240=>94|241=>178|276=>126|277=>204|n=>n,fun|0=>0|3=>3|4=>4|5=>5|9=>9|20=>20|31=>31|37=>22|70=>81|72=>83|75=>85|76=>87|80=>89|127=>123|164=>147|n=>n,fun|n=>n⟩
theorem aD0:Go.Proofs.Lays.n156 prog lP:={
 mixed:=by kernel_rfl,
 f156:=func106.trans (congrArg some (by kernel_rfl)),
 f165:=func144.trans (congrArg some (by kernel_rfl)),
 f166:=func56.trans (congrArg some (by kernel_rfl)),
 f169:=func57.trans (congrArg some (by kernel_rfl)),
 f240:=func94.trans (congrArg some (by kernel_rfl)),
 f241:=func178.trans (congrArg some (by kernel_rfl)),
 f276:=func126.trans (congrArg some (by kernel_rfl)),
 f277:=func204.trans (congrArg some (by kernel_rfl)),
 t0:=underlying0,
 a0:=Tryz.isAgg0,
 z0:=Tryz.sizeOf0,
 v0:=Tryz.zeroValue0,
 t3:=underlying3,
 a3:=Tryz.isAgg3,
 z3:=Tryz.sizeOf3,
 v3:=Tryz.zeroValue3,
 t4:=underlying4,
 a4:=Tryz.isAgg4,
 z4:=Tryz.sizeOf4,
 v4:=Tryz.zeroValue4,
 t9:=underlying9,
 a9:=Tryz.isAgg9,
 z9:=Tryz.sizeOf9,
 v9:=Tryz.zeroValue9,
 t20:=underlying20,
 a20:=Tryz.isAgg20,
 z20:=Tryz.sizeOf20,
 v20:=Tryz.zeroValue20,
 t31:=underlying31,
 a31:=Tryz.isAgg31,
 z31:=Tryz.sizeOf31,
 v31:=Tryz.zeroValue31,
 t37:=underlying22,
 a37:=Tryz.isAgg22,
 z37:=Tryz.sizeOf22,
 v37:=Tryz.zeroValue22,
 t70:=underlying81,
 a70:=Tryz.isAgg81,
 z70:=Tryz.sizeOf81,
 v70:=Tryz.zeroValue81,
 t72:=underlying83,
 a72:=Tryz.isAgg83,
 z72:=Tryz.sizeOf83,
 v72:=Tryz.zeroValue83,
 t75:=underlying85,
 a75:=Tryz.isAgg85,
 z75:=Tryz.sizeOf85,
 v75:=Tryz.zeroValue85,
 t76:=underlying87,
 a76:=Tryz.isAgg87,
 z76:=Tryz.sizeOf87,
 v76:=Tryz.zeroValue87,
 t127:=underlying123,
 a127:=Tryz.isAgg123,
 z127:=Tryz.sizeOf123,
 v127:=Tryz.zeroValue123,
 t164:=underlying147,
 a164:=Tryz.isAgg147,
 z164:=Tryz.sizeOf147,
 v164:=Tryz.zeroValue147}
theorem aPp:Go.Proofs.Builder.Extra prog lP:={
 sizeBuilder:=by kernel_rfl
 liesBuilder:=by kernel_rfl
 t5:=underlying5
 a5:=Tryz.isAgg5
 z5:=Tryz.sizeOf5
 v5:=Tryz.zeroValue5
 infoByte:=by kernel_rfl
 cellsByte:=by kernel_rfl
 sizeByte:=by kernel_rfl
 neB5:=by decide}
def sE (c:UInt8)(r:List (List UInt8)):List UInt8:=r.flatMap (fun y=>c::y)
def iG (c:UInt8):List (List UInt8)→List UInt8
 | []=> []
 |x::r=>x++sE c r
theorem aBl (c:UInt8)(xs:List (List UInt8)):Lib.join xs [c]=iG c xs:=by
 cases xs with
 |nil=>rfl
 |cons x r=>rw[Lib.join_cons];show x++(r.map ([c]++ ·)).flatten=x++r.flatMap (fun y=>c::y);rw[List.flatMap_def];rfl
def cM (ps:List (List UInt8)):List Value:=ps.map str
theorem aFe (ps:List (List UInt8))(c:UInt8)(p:OA)(n a:Nat)(w:World)(hn:ps.length=n)(h0:0<n)(hS:Sl w p n a 1 (cM ps))(hl:(iG c ps).length≤140737488355328)(f:n≤1099511627776):
  U 106 #[.slice p n a,.string ⟨#[c]⟩] w (O (str (iG c ps)) w):=by
 obtain⟨b,d,rfl,hb,hc⟩:=hS.rd h0;subst hn;have hm:(ps.map (fun l=>(⟨l.toArray⟩:ByteArray))).map (·.data.toList)=ps:=by rw[List.map_map];exact(List.map_congr_left (fun x _=>by simp)).trans (List.map_id ps)
 have h:=Any.strings_Join aD0 aPp b d a (ps.map (fun l=>(⟨l.toArray⟩:ByteArray))) ⟨#[c]⟩ w
  (fun j x hx=>by
   rw[aTo]at hx;obtain⟨y,hy,rfl⟩:=Option.map_eq_some_iff.1 hx;have hj:j<ps.length:=(aT9.1 hy).1;rw[hc j (by omega)]
   simp[cM,hy])
  hb (by rw[aU1];omega) (by rw[aU1];exact hS.le) (by rw[hm];simpa[aBl]using hl)
 rw[hm,aU1]at h;refine h.mono ?_;rintro e w' ⟨rfl,hx⟩;exact⟨by rw[show(⟨#[c]⟩:ByteArray).data.toList= [c]from rfl,aBl],hx⟩
end
abbrev dec (x:Int):List UInt8:=Lib.decDigits x.toNat
def bO (xs:List Int):List UInt8:=iG 44 (xs.map dec)
def cL (v:aR):List Int:= [v.1,v.2.1,v.2.2.1,v.2.2.2]
def sR (h:aL):List (List UInt8):=eA h.aA h.aB h.cells::bO [h.free,h.step,h.aD,h.aF]::dec h.aC::dec h.aG::h.vs.map (fun v=>bO (cL v))
def kY (h:aL):List UInt8:=if aP h then iG 59 (sR h)else []
theorem nP (a b c d:Int):bO [a,b,c,d]=dec a++44::dec b++44::dec c++44::dec d:=by simp[bO,iG,sE]
theorem oZ (a:Int):bO [a]=dec a:=by simp[bO,iG,sE]
theorem fM (x:Int)(h:x≤9223372036854775807):(dec x).length≤21:=cQ _ (by omega)
theorem vI (a b c d:Int)(h1:a≤9223372036854775807)(h2:b≤9223372036854775807)(h3:c≤9223372036854775807)(h4:d≤9223372036854775807):(bO [a,b,c,d]).length≤90:=by rw[nP];have:=fM a h1;have:=fM b h2;have:=fM c h3;have:=fM d h4;simp only[aTc,aUh];omega
theorem aE9 (c:UInt8)(M:Nat): ∀r:List (List UInt8),(∀x∈r,x.length≤M)→(sE c r).length≤(M+1)*r.length:=by
 intro r;induction r with
 |nil=>intro _;simp[sE]
 |cons x r ih=>intro h;have h1:=h x (by simp);have h2:=ih (fun y hy=>h y (by simp[hy]));simp only[sE,aUc,aTc,aUh]at h2⊢;rw[Nat.mul_succ];omega
section
open Go.Proofs.Tryz
theorem aSz (l:List UInt8)(m:Nat)(h:l.length≤m): ∃s:ByteArray,s=⟨l.toArray⟩∧s.size≤m:=⟨_,rfl,by simpa[ByteArray.size]using h⟩
theorem nO (a b:ByteArray)(x y:List UInt8)(h1:a=⟨x.toArray⟩)(h2:b=⟨y.toArray⟩):a++b=⟨(x++y).toArray⟩:=by rw[h1,h2];exact Go.WideShapes.bytes_inj (by simp[ByteArray.data_append])
theorem aT0 {a:ByteArray}{l:List UInt8}(h:a=⟨l.toArray⟩):Ending.returned (.string a)= .returned (str l):=by rw[h]
theorem uW (aA aB:Int)(p:OA)(n a:Nat)(w:World)(hn:n≤9223372036854775807)(HV:xB 25 #[aH aA aB p n a] w false):
  U 90 #[aH aA aB p n a] w (O (str []) w):=by
 by_cases h0:0<n
 ·have u1:(0:Int)<(n:Int):=by omega
  go_enter func90,ntmps90;go_wp2;refine wp_loop_rounds 1 ?_;rw[rounds_succ];go_wp2_with fail;refine Z (HV _ (by exact .alloc (.refl _) _)) fun w1 h1=>?_
  go_wp2;go_ret;exact⟨rfl,by exact .trans (.alloc (.refl _) _) h1⟩
 obtain rfl:n=0:=by omega
 go_enter func90,ntmps90;go_wp2;go_rounds 1;go_ret;exact⟨rfl,by exact .alloc (.refl _) _⟩
theorem xA (aA aB:Int)(p:OA)(n s:Nat)(xs:List Int)(w:World)(h0:2≤aA)(h1:aA≤4)(hn:n≤12)(hc: ∀x∈xs,0≤x∧x≤99)(HS:Hid (Sl w p n s 1 (ivs xs)))
  (HV:xB 25 #[aH aA aB p n s] w true):
  U 90 #[aH aA aB p n s] w (O (str (aV aA xs n)) w):=by
 have y:=xQ hc;clear hc;go_enter func90,ntmps90;go_wp2;go_loopw [3,4] (fun o i wr=> ∃(k:Nat) (S:ByteArray),k≤n∧i=I k∧o= .string S∧S=⟨(aV aA xs k).toArray⟩∧Ext w wr∧Blk wr w 25 #[aA,aB,.slice p n s]) (fun _ i _=>n-(intOf i).toNat)
 case atStart=>exact⟨0,_,aTd _,rfl,rfl,rfl,by exact .alloc (.refl _) _,Blk.new _ _ _⟩
 case round=>
  obtain⟨k,S,hk,rfl,rfl,hS,hE,hB⟩:=hrel;have ag:S.size≤300:=by have:=nT aA xs (fun x hx=>(y x hx).2) k;rw[hS];simp[ByteArray.size];omega
  have j:=xQ hS;have r:=xQ hB;have af:(w:Nat)<wr:=hB.lt;clear hS hB;by_cases hlt:k<n
  ·obtain⟨b,ad,x,rfl,hx,v,m⟩:=(HS.out.ext hE).int_at hlt;obtain⟨ab,ah⟩:=y x (aT7 hx);have HX:=xQ hx;have d:=xQ (qQ (aA:=aA) hx);clear hx;have i1:=aVt k;have i2:=aVu k n;have r_:=r.out.tri;have t:Hid (∀w,U 40 #[x] w (O (str (Lib.decDigits x.toNat)) w)):=fun w=>jS x w ab (by omega)
   obtain⟨tx,ex,mx⟩:=aSz (Lib.decDigits x.toNat) 21 (cQ _ (by omega));have h:Hid (∀w,U 40 #[x] w (O (.string tx) w)):=by rw[ex];exact t.out
   have u:=xQ ex;clear ex t;go_wp2_with fail;refine Z (HV _ (by exact hE)) fun w1 q=>?_
   have g:=xQ (r.out.ext q);have X1:Ext w w1:=hE.trans q;have z:w1.cell? ⟨b,ad+k,none⟩=some (iv x):=by rw[q.cells.1 _ _ v];exact m
   have ae:b<w1:=aT4 v q.sz;clear q r_ r m v;have a_:=g.out.tri;by_cases hk0:k=0
   ·by_cases hz:x=0
    ·have c:Hid (dJ aA k= []):=by show _=_;simp[dJ,hk0]
     have S1:Hid (S=⟨(aV aA xs k++dJ aA k).toArray⟩):=by show _=_;rw[c.out,aTv];exact j.out
     have f1:decide ((0:Int)<(k:Int))=false:=by simp[hk0]
     have f2:decide (0<k)=false:=by simp[hk0]
     have f3: ¬0<k:=by omega
     have z1:(x==0)=true:=by simp[hz]
     have a:Hid (S++⟨#[46]⟩=⟨(aV aA xs (k+1)).toArray⟩):=by show _=_;rw[d.out];exact nO _ _ _ _ S1 (by simp[eY,hz])
     have q2:=aVx (S.size+1);clear hk0 hz;go_wp2;go_roundw
     case rel=>exact⟨k+1,_,by omega,by go_num,rfl,a.out,by exact X1,g.out.ext (by exact .refl _)⟩
     case measure=>simp[intOf];omega
    have c:Hid (dJ aA k= []):=by show _=_;simp[dJ,hk0]
    have S1:Hid (S=⟨(aV aA xs k++dJ aA k).toArray⟩):=by show _=_;rw[c.out,aTv];exact j.out
    have f1:decide ((0:Int)<(k:Int))=false:=by simp[hk0]
    have f2:decide (0<k)=false:=by simp[hk0]
    have f3: ¬0<k:=by omega
    have z1:(x==0)=false:=by simp[hz]
    have a:Hid (S++tx=⟨(aV aA xs (k+1)).toArray⟩):=by show _=_;rw[d.out];exact nO _ _ _ _ S1 (by rw[u.out];simp[eY,hz])
    have q2:=aVx (S.size+tx.size);clear hk0 hz;go_wp2_with fail;refine Z (h _) fun w2 f=>?_
    have l:=xQ (g.out.ext f);go_wp2;go_roundw
    case rel=>exact⟨k+1,_,by omega,by go_num,rfl,a.out,by exact .trans X1 f,l.out⟩
    case measure=>simp[intOf];omega
   by_cases hmod:(k:Int)%aA=0
   ·by_cases hz:x=0
    ·have c:Hid (dJ aA k= [47]):=by show _=_;simp[dJ,hk0,hmod]
     have S1:Hid (S++⟨#[47]⟩=⟨(aV aA xs k++dJ aA k).toArray⟩):=by show _=_;rw[c.out];exact nO _ _ _ _ j.out rfl
     have q1:=aVx (S.size+1);have f1:0<k:=by omega
     have f3:(0:Int)<(k:Int):=by omega
     have f2:((k:Int)%aA==0)=true:=by simp[hmod]
     have z1:(x==0)=true:=by simp[hz]
     have a:Hid (S++⟨#[47]⟩++⟨#[46]⟩=⟨(aV aA xs (k+1)).toArray⟩):=by show _=_;rw[d.out];exact nO _ _ _ _ S1 (by simp[eY,hz])
     have q2:=aVx (S.size+1+1);clear hk0 hz hmod;go_wp2;go_roundw
     case rel=>exact⟨k+1,_,by omega,by go_num,rfl,a.out,by exact X1,g.out.ext (by exact .refl _)⟩
     case measure=>simp[intOf];omega
    have c:Hid (dJ aA k= [47]):=by show _=_;simp[dJ,hk0,hmod]
    have S1:Hid (S++⟨#[47]⟩=⟨(aV aA xs k++dJ aA k).toArray⟩):=by show _=_;rw[c.out];exact nO _ _ _ _ j.out rfl
    have q1:=aVx (S.size+1);have f1:0<k:=by omega
    have f3:(0:Int)<(k:Int):=by omega
    have f2:((k:Int)%aA==0)=true:=by simp[hmod]
    have z1:(x==0)=false:=by simp[hz]
    have a:Hid (S++⟨#[47]⟩++tx=⟨(aV aA xs (k+1)).toArray⟩):=by show _=_;rw[d.out];exact nO _ _ _ _ S1 (by rw[u.out];simp[eY,hz])
    have q2:=aVx (S.size+1+tx.size);clear hk0 hz hmod;go_wp2_with fail;refine Z (h _) fun w2 f=>?_
    have l:=xQ (g.out.ext f);go_wp2;go_roundw
    case rel=>exact⟨k+1,_,by omega,by go_num,rfl,a.out,by exact .trans X1 f,l.out⟩
    case measure=>simp[intOf];omega
   by_cases hz:x=0
   ·have c:Hid (dJ aA k= [44]):=by show _=_;simp[dJ,hk0,hmod]
    have S1:Hid (S++⟨#[44]⟩=⟨(aV aA xs k++dJ aA k).toArray⟩):=by show _=_;rw[c.out];exact nO _ _ _ _ j.out rfl
    have q1:=aVx (S.size+1);have f1:0<k:=by omega
    have f3:(0:Int)<(k:Int):=by omega
    have f2:((k:Int)%aA==0)=false:=by simp[hmod]
    have z1:(x==0)=true:=by simp[hz]
    have a:Hid (S++⟨#[44]⟩++⟨#[46]⟩=⟨(aV aA xs (k+1)).toArray⟩):=by show _=_;rw[d.out];exact nO _ _ _ _ S1 (by simp[eY,hz])
    have q2:=aVx (S.size+1+1);clear hk0 hz hmod;go_wp2;go_roundw
    case rel=>exact⟨k+1,_,by omega,by go_num,rfl,a.out,by exact X1,g.out.ext (by exact .refl _)⟩
    case measure=>simp[intOf];omega
   have c:Hid (dJ aA k= [44]):=by show _=_;simp[dJ,hk0,hmod]
   have S1:Hid (S++⟨#[44]⟩=⟨(aV aA xs k++dJ aA k).toArray⟩):=by show _=_;rw[c.out];exact nO _ _ _ _ j.out rfl
   have q1:=aVx (S.size+1);have f1:0<k:=by omega
   have f3:(0:Int)<(k:Int):=by omega
   have f2:((k:Int)%aA==0)=false:=by simp[hmod]
   have z1:(x==0)=false:=by simp[hz]
   have a:Hid (S++⟨#[44]⟩++tx=⟨(aV aA xs (k+1)).toArray⟩):=by show _=_;rw[d.out];exact nO _ _ _ _ S1 (by rw[u.out];simp[eY,hz])
   have q2:=aVx (S.size+1+tx.size);clear hk0 hz hmod;go_wp2_with fail;refine Z (h _) fun w2 f=>?_
   have l:=xQ (g.out.ext f);go_wp2;go_roundw
   case rel=>exact⟨k+1,_,by omega,by go_num,rfl,a.out,by exact .trans X1 f,l.out⟩
   case measure=>simp[intOf];omega
  have aa:k=n:=by omega
  have d:Hid (S=⟨(aV aA xs n).toArray⟩):=by show _=_;rw[←aa];exact j.out
  have r_:=r.out.tri;go_wp2;go_ret;exact⟨aT0 d.out,hE⟩
theorem tI (aA aB:Int)(p:OA)(n a:Nat)(xs:List Int)(w:World)(hS:Sl w p n a 1 (ivs xs)):
  U 90 #[aH aA aB p n a] w (O (str (eA aA aB xs)) w):=by
 have hl:=hS.ilen;cases h:aN aA aB xs with
 |true=>obtain⟨h1,h2,h3,h4,h5,h6,h7,h8,h9⟩:=bN h;unfold eA;rw[if_pos h,hl];exact xA aA aB p n a xs w h1 h2 (by omega) h8 hS (fun w' hx=>by rw[←h];exact gM aA aB p n a xs w' (hS.ext hx))
 |false=>unfold eA;rw[if_neg (by simp[h])];exact uW aA aB p n a w hS.bd (fun w' hx=>by rw[←h];exact gM aA aB p n a xs w' (hS.ext hx))
end
end Go.Proofs.YthfmmibomhhmpaaGreatDoor
