/-
  Texts of this proof, packed (@packed).
-/
import Derived.Test.YtbgkcehffiogcacGreatDoorQ19
namespace Go.Proofs.YtbgkcehffiogcacGreatDoor
open Go.RowKit
set_option linter.unusedSimpArgs false
set_option linter.unusedVariables false
set_option maxHeartbeats 8000000
set_option maxRecDepth 100000
section
open Go.Proofs.Tryz
def jT (p:List UInt8):Nat→Int
 |0=> -1
 |k+1=>if p=bT k then k else jT p k
theorem uA (p:List UInt8):jT p 5=(iP p).getD (-1):=by
 cases h:iP p with
 |none=>obtain⟨n1,n2,n3,n4,n5⟩:=pD h;simp only[beq_eq_false_iff_ne,ne_eq]at n1 n2 n3 n4 n5;simp[jT,bT,n1,n2,n3,n4,n5]
 |some k=>rcases fG h with⟨rfl,rfl⟩|⟨rfl,rfl⟩|⟨rfl,rfl⟩|⟨rfl,rfl⟩|⟨rfl,rfl⟩<;>decide
theorem xN {p:List UInt8}{k:Nat}(h:p=bT k):jT p (k+1)=k:=by simp[jT,h]
theorem aBz {p:List UInt8}{k:Nat}(h:p≠bT k):jT p (k+1)=jT p k:=by simp[jT,h]
theorem rJ {W0 wr:World}{B:Nat}(hg:W0.grownBy wr (some B))(o:Nat)(v:Value):W0.grownBy (wr.setCell ⟨B,o,none⟩ v) (some B):=
 ⟨hg.os,hg.tape,hg.output,by simpa using hg.size,fun k hk hne=>by rw[aU3 _ _ _ _ (fun e=>hne (by simp[e]))];exact hg.block k hk hne⟩
theorem kJ {W0 wr:World}{r:Option Nat}(hg:W0.grownBy wr r):W0.grownBy wr.drew r:=⟨hg.os,hg.tape,hg.output,hg.size,hg.block⟩
theorem oI {w W0 wr:World}{B:Nat}(h:Ext w W0)(hg:W0.grownBy wr (some B))(hB:w.heap.size≤B):Ext w wr:=h.grown hg (fun k hk=>by simp at hk;omega)
theorem h1' {w w1:World}{o o2:Obj}(h:Ext (w.alloc o) w1):Ext w (w1.alloc o2):=(((Ext.refl w).alloc o).trans h).alloc o2
theorem aJf (l:List UInt8)(w:World)(ps:List (List UInt8))(n:Nat)(p t:List UInt8)(hn:n=1)(af:1≤n)(ag:n≤1099511627777)
  (u:ps[0]? =some p)
  (HS:Hid (∀w,U 52 #[str l,.int .u8 32] w fun e w'=> ∃v,e= .returned v∧w'.ownsRow w 9 1 v n (gI ps)∧Ext w w'))
  (HD:Hid (∀w,U 55 #[fU (jT p 5) 0 0] w (O (str t) w))):
  U 22 #[str l] w (lA (if l≠ []∧t=l then some (jT p 5,0,0)else none) w):=by
  obtain⟨o,ho⟩: ∃o:Option (Int×Int×Int),(if l≠ []∧t=l then some (jT p 5,0,0)else none)=o:=⟨_,rfl⟩
  rw[ho];have HO:=xQ ho;clear ho;go_enter func22,ntmps22;go_wp2_with fail;refine(HS _).mono ?_;rintro e w1 ⟨v,rfl,a,h1⟩;obtain⟨g,ab,rfl⟩:=aSx a (by omega);have e0:=aW a 0 (by omega) _ u;have hg:=(a.lt g rfl).2;have c:(w:Nat)<w1:=aRo (by simp) h1.sz;have ae:w.heap.size<g:=aRo (by simp) (a.lt g rfl).1;obtain⟨m,q⟩:=h1.cells;clear a;go_wp2;go_loopw [6] (fun i wr=> ∃k:Nat,k≤5∧i=I k∧wr.heap[w1.heap.size]? =some (.cells #[(jT p k:Int),(),()] 53 (0,0))∧(w1.alloc (.cells #[(-1:Int),(),()] 53)).grownBy wr (some w1)) (fun i _=>5-(intOf i).toNat)
  case atStart=>exact⟨0,by omega,rfl,by rw[heap_alloc_new];rfl,aSv _ _⟩
  case round=>
   obtain⟨k,hk,rfl,hB,b⟩:=hrel;have b0:wr.cell? ⟨w1,0,none⟩=some (I (jT p k)):=aTj hB 0;have b1:wr.cell? ⟨w1,1,none⟩=some (I 0):=aTj hB 1;have b2:wr.cell? ⟨w1,2,none⟩=some (I 0):=aTj hB 2;have u0:=aT4 hB 0;have u1:=aT4 hB 1;have u2:=aT4 hB 2;have HG:=xQ b;have h:=xQ hB;have x:=b.size;simp only[aU8]at x;have g0:wr.cell? ⟨g,0,none⟩=some (str p):=b.cell (by rw[aT3 _ _ _ (by simpa using hg)];exact e0) (by simp;omega);have r0: ∀j,j<3→wr.cell? ⟨w,j,none⟩=some (I 0):=fun j hj=>b.cell (by rw[aT3 _ _ _ (by simpa using c),m _ _ (by simp)];rcases(show j=0∨j=1∨j=2 by omega)with rfl|rfl|rfl<;>simp) (by simp;omega)
   have r1: ∀j,wr.frozen? ⟨w,j,none⟩=false:=fun j=>by rw[aTw (w:=w1.alloc (.cells #[(-1:Int),(),()] 53)) (b.block _ (by simp;omega) (by simp;omega)),aTw (aUb _ _ _ (by simpa using c)),q _ _ (by simp)];simp
   have ah:=r0 0 (by omega);have ai:=r0 1 (by omega);have aj:=r0 2 (by omega);have ak:=r1 0;have al:=r1 1;have am:=r1 2;clear b hB r0 r1 m q e0;by_cases hlt:k<5
   ·by_cases hpk:p=bT k
    ·have hb:(p==bT (k:Int))=true:=by simp[hpk]
     have d:=xQ hpk;clear hpk;go_wp2;go_region_held3 (fun w'=>w'.cell? ⟨g,0,none⟩=some (str p)) (go_keep) ((go_at_call 53;refine(hU k _ (by omega)).mono ?_;rintro e w2 ⟨rfl,rfl⟩));all_goals go_wp2
     all_goals go_roundw
     all_goals first
      |(case rel=>exact⟨k+1,by omega,by go_num,by rw[xN d.out];exact aUa h.out _,rJ (kJ HG.out) _ _⟩)
      |(case measure=>simp[intOf];omega)
    have hb:(p==bT (k:Int))=false:=by simp[hpk]
    have d:=xQ hpk;clear hpk;go_wp2;go_region_held3 (fun w'=>w'.cell? ⟨g,0,none⟩=some (str p)) (go_keep) ((go_at_call 53;refine(hU k _ (by omega)).mono ?_;rintro e w2 ⟨rfl,rfl⟩));all_goals go_wp2
    all_goals go_roundw
    all_goals first
     |(case rel=>exact⟨k+1,by omega,by go_num,by rw[aBz d.out];exact h.out,kJ HG.out⟩)
     |(case measure=>simp[intOf];omega)
   obtain rfl:k=5:=by omega
   have ad:Ext w wr:=oI (h1' h1) HG (by omega);by_cases h0:l= []
   ·have hl:l.isEmpty=true:=by simp[h0]
    obtain rfl:none=o:=by have e:=HO.out;rwa[if_neg (by simp[h0])]at e
    clear h0;go_wp2;exact bodyPost_ret (v:=rdV none) (by simp[results,results22,go_sem, *];rfl) rfl ⟨rfl,xE⟩
   have hl:l.isEmpty=false:=by simp[h0]
   by_cases hh:t=l
   ·have ht:(t==l)=true:=by simp[hh]
    obtain rfl:some (jT p 5,0,0)=o:=by have e:=HO.out;rwa[if_pos ⟨h0,hh⟩]at e
    clear h0 hh;go_wp2_with fail;refine Z (HD _) fun w2 h2=>?_
    obtain⟨r,s⟩:=h2.cells;have f:(w1:Nat)<w2:=aRo (by first|omega|(simp;omega)) h2.sz;have y:(w:Nat)<w2:=aTp c f;have z:(w1:Nat)<wr:=by omega
    have aa:(w:Nat)<wr:=by omega
    go_wp2;exact bodyPost_ret (v:=rdV (some (_,0,0))) (by simp[results,results22,go_sem, *];rfl) rfl ⟨rfl,xE⟩
   have ht:(t==l)=false:=by simp[hh]
   obtain rfl:none=o:=by have e:=HO.out;rwa[if_neg (by simp[hh])]at e
   clear h0 hh;go_wp2_with fail;refine Z (HD _) fun w2 h2=>?_
   obtain⟨r,s⟩:=h2.cells;have f:(w1:Nat)<w2:=aRo (by first|omega|(simp;omega)) h2.sz;have y:(w:Nat)<w2:=aTp c f;have z:(w1:Nat)<wr:=by omega
   have aa:(w:Nat)<wr:=by omega
   go_wp2;exact bodyPost_ret (v:=rdV none) (by simp[results,results22,go_sem, *];rfl) rfl ⟨rfl,xE⟩
theorem aJe (l:List UInt8)(w:World)(ps:List (List UInt8))(n:Nat)(p q t:List UInt8)(a:Int)(hn:n=2)(ai:1≤n)(aj:n≤1099511627777)
  (y:ps[0]? =some p) (z:ps[1]? =some q)
  (HS:Hid (∀w,U 52 #[str l,.int .u8 32] w fun e w'=> ∃v,e= .returned v∧w'.ownsRow w 9 1 v n (gI ps)∧Ext w w'))
  (HR:Hid (∀w,U 54 #[str q] w fun e w'=>e= .returned (I a)∧w=w'))
  (HD:Hid (∀w,U 55 #[fU (jT p 5) a 0] w (O (str t) w))):
  U 22 #[str l] w (lA (if l≠ []∧t=l then some (jT p 5,a,0)else none) w):=by
  obtain⟨o,ho⟩: ∃o:Option (Int×Int×Int),(if l≠ []∧t=l then some (jT p 5,a,0)else none)=o:=⟨_,rfl⟩
  rw[ho];have HO:=xQ ho;clear ho;go_enter func22,ntmps22;go_wp2_with fail;refine(HS _).mono ?_;rintro e w1 ⟨v,rfl,b,h1⟩;obtain⟨g,af,rfl⟩:=aSx b (by omega);have e0:=aW b 0 (by omega) _ y;have e1:=aW b 1 (by omega) _ z;have hg:=(b.lt g rfl).2;have d:(w:Nat)<w1:=aRo (by simp) h1.sz;have ah:w.heap.size<g:=aRo (by simp) (b.lt g rfl).1;obtain⟨r,s⟩:=h1.cells;clear b;go_wp2;go_loopw [6] (fun i wr=> ∃k:Nat,k≤5∧i=I k∧wr.heap[w1.heap.size]? =some (.cells #[(jT p k:Int),(),()] 53 (0,0))∧(w1.alloc (.cells #[(-1:Int),(),()] 53)).grownBy wr (some w1)) (fun i _=>5-(intOf i).toNat)
  case atStart=>exact⟨0,by omega,rfl,by rw[heap_alloc_new];rfl,aSv _ _⟩
  case round=>
   obtain⟨k,hk,rfl,hB,c⟩:=hrel;have b0:wr.cell? ⟨w1,0,none⟩=some (I (jT p k)):=aTj hB 0;have b1:wr.cell? ⟨w1,1,none⟩=some (I 0):=aTj hB 1;have b2:wr.cell? ⟨w1,2,none⟩=some (I 0):=aTj hB 2;have u0:=aT4 hB 0;have u1:=aT4 hB 1;have u2:=aT4 hB 2;have HG:=xQ c;have m:=xQ hB;have aa:=c.size;simp only[aU8]at aa;have g0:wr.cell? ⟨g,0,none⟩=some (str p):=c.cell (by rw[aT3 _ _ _ (by simpa using hg)];exact e0) (by simp;omega);have g1:wr.cell? ⟨g,1,none⟩=some (str q):=c.cell (by rw[aT3 _ _ _ (by simpa using hg)];exact e1) (by simp;omega);have r0: ∀j,j<3→wr.cell? ⟨w,j,none⟩=some (I 0):=fun j hj=>c.cell (by rw[aT3 _ _ _ (by simpa using d),r _ _ (by simp)];rcases(show j=0∨j=1∨j=2 by omega)with rfl|rfl|rfl<;>simp) (by simp;omega)
   have r1: ∀j,wr.frozen? ⟨w,j,none⟩=false:=fun j=>by rw[aTw (w:=w1.alloc (.cells #[(-1:Int),(),()] 53)) (c.block _ (by simp;omega) (by simp;omega)),aTw (aUb _ _ _ (by simpa using d)),s _ _ (by simp)];simp
   have ak:=r0 0 (by omega);have al:=r0 1 (by omega);have am:=r0 2 (by omega);have an:=r1 0;have ao:=r1 1;have ap:=r1 2;clear c hB r0 r1 r s e0;by_cases hlt:k<5
   ·by_cases hpk:p=bT k
    ·have hb:(p==bT (k:Int))=true:=by simp[hpk]
     have f:=xQ hpk;clear hpk;go_wp2;go_region_held3 (fun w'=>w'.cell? ⟨g,0,none⟩=some (str p)) (go_keep) ((go_at_call 53;refine(hU k _ (by omega)).mono ?_;rintro e w2 ⟨rfl,rfl⟩));all_goals go_wp2
     all_goals go_roundw
     all_goals first
      |(case rel=>exact⟨k+1,by omega,by go_num,by rw[xN f.out];exact aUa m.out _,rJ (kJ HG.out) _ _⟩)
      |(case measure=>simp[intOf];omega)
    have hb:(p==bT (k:Int))=false:=by simp[hpk]
    have f:=xQ hpk;clear hpk;go_wp2;go_region_held3 (fun w'=>w'.cell? ⟨g,0,none⟩=some (str p)) (go_keep) ((go_at_call 53;refine(hU k _ (by omega)).mono ?_;rintro e w2 ⟨rfl,rfl⟩));all_goals go_wp2
    all_goals go_roundw
    all_goals first
     |(case rel=>exact⟨k+1,by omega,by go_num,by rw[aBz f.out];exact m.out,kJ HG.out⟩)
     |(case measure=>simp[intOf];omega)
   obtain rfl:k=5:=by omega
   have ag:Ext w wr:=oI (h1' h1) HG (by omega);go_wp2_with fail;refine(HR _).mono ?_;rintro e w2 ⟨rfl,rfl⟩;by_cases h0:l= []
   ·have hl:l.isEmpty=true:=by simp[h0]
    obtain rfl:none=o:=by have e:=HO.out;rwa[if_neg (by simp[h0])]at e
    clear h0;go_wp2;exact bodyPost_ret (v:=rdV none) (by simp[results,results22,go_sem, *];rfl) rfl ⟨rfl,xE⟩
   have hl:l.isEmpty=false:=by simp[h0]
   by_cases hh:t=l
   ·have ht:(t==l)=true:=by simp[hh]
    obtain rfl:some (jT p 5,a,0)=o:=by have e:=HO.out;rwa[if_pos ⟨h0,hh⟩]at e
    clear h0 hh;go_wp2_with fail;refine Z (HD _) fun w2 h2=>?_
    obtain⟨u,x⟩:=h2.cells;have h:(w1:Nat)<w2:=aRo (by first|omega|(simp;omega)) h2.sz;have ab:(w:Nat)<w2:=aTp d h;have ad:(w1:Nat)<wr:=by omega
    have ae:(w:Nat)<wr:=by omega
    go_wp2;exact bodyPost_ret (v:=rdV (some (_,a,0))) (by simp[results,results22,go_sem, *];rfl) rfl ⟨rfl,xE⟩
   have ht:(t==l)=false:=by simp[hh]
   obtain rfl:none=o:=by have e:=HO.out;rwa[if_neg (by simp[hh])]at e
   clear h0 hh;go_wp2_with fail;refine Z (HD _) fun w2 h2=>?_
   obtain⟨u,x⟩:=h2.cells;have h:(w1:Nat)<w2:=aRo (by first|omega|(simp;omega)) h2.sz;have ab:(w:Nat)<w2:=aTp d h;have ad:(w1:Nat)<wr:=by omega
   have ae:(w:Nat)<wr:=by omega
   go_wp2;exact bodyPost_ret (v:=rdV none) (by simp[results,results22,go_sem, *];rfl) rfl ⟨rfl,xE⟩
theorem aJd (l:List UInt8)(w:World)(ps:List (List UInt8))(n:Nat)(p q r t:List UInt8)(a b:Int)(hn:3≤n)(am:1≤n)(an:n≤1099511627777)
  (ab:ps[0]? =some p) (ad:ps[1]? =some q) (ae:ps[2]? =some r)
  (HS:Hid (∀w,U 52 #[str l,.int .u8 32] w fun e w'=> ∃v,e= .returned v∧w'.ownsRow w 9 1 v n (gI ps)∧Ext w w'))
  (HR:Hid (∀w,U 54 #[str q] w fun e w'=>e= .returned (I a)∧w=w'))
  (y:Hid (∀w,U 54 #[str r] w fun e w'=>e= .returned (I b)∧w=w'))
  (HD:Hid (∀w,U 55 #[fU (jT p 5) a b] w (O (str t) w))):
  U 22 #[str l] w (lA (if l≠ []∧t=l then some (jT p 5,a,b)else none) w):=by
  obtain⟨o,ho⟩: ∃o:Option (Int×Int×Int),(if l≠ []∧t=l then some (jT p 5,a,b)else none)=o:=⟨_,rfl⟩
  rw[ho];have HO:=xQ ho;clear ho;go_enter func22,ntmps22;go_wp2_with fail;refine(HS _).mono ?_;rintro e w1 ⟨v,rfl,c,h1⟩;obtain⟨g,aj,rfl⟩:=aSx c (by omega);have ao:(0:Int)<(n:Int):=by omega
  have ap:0<n:=by omega
  have e0:=aW c 0 (by omega) _ ab;have e1:=aW c 1 (by omega) _ ad;have e2:=aW c 2 (by omega) _ ae;have hg:=(c.lt g rfl).2;have f:(w:Nat)<w1:=aRo (by simp) h1.sz;have al:w.heap.size<g:=aRo (by simp) (c.lt g rfl).1;obtain⟨u,x⟩:=h1.cells;clear c;go_wp2;go_loopw [6] (fun i wr=> ∃k:Nat,k≤5∧i=I k∧wr.heap[w1.heap.size]? =some (.cells #[(jT p k:Int),(),()] 53 (0,0))∧(w1.alloc (.cells #[(-1:Int),(),()] 53)).grownBy wr (some w1)) (fun i _=>5-(intOf i).toNat)
  case atStart=>exact⟨0,by omega,rfl,by rw[heap_alloc_new];rfl,aSv _ _⟩
  case round=>
   obtain⟨k,hk,rfl,hB,d⟩:=hrel;have b0:wr.cell? ⟨w1,0,none⟩=some (I (jT p k)):=aTj hB 0;have b1:wr.cell? ⟨w1,1,none⟩=some (I 0):=aTj hB 1;have b2:wr.cell? ⟨w1,2,none⟩=some (I 0):=aTj hB 2;have u0:=aT4 hB 0;have u1:=aT4 hB 1;have u2:=aT4 hB 2;have HG:=xQ d;have s:=xQ hB;have af:=d.size;simp only[aU8]at af;have g0:wr.cell? ⟨g,0,none⟩=some (str p):=d.cell (by rw[aT3 _ _ _ (by simpa using hg)];exact e0) (by simp;omega);have g1:wr.cell? ⟨g,1,none⟩=some (str q):=d.cell (by rw[aT3 _ _ _ (by simpa using hg)];exact e1) (by simp;omega);have g2:wr.cell? ⟨g,2,none⟩=some (str r):=d.cell (by rw[aT3 _ _ _ (by simpa using hg)];exact e2) (by simp;omega);have r0: ∀j,j<3→wr.cell? ⟨w,j,none⟩=some (I 0):=fun j hj=>d.cell (by rw[aT3 _ _ _ (by simpa using f),u _ _ (by simp)];rcases(show j=0∨j=1∨j=2 by omega)with rfl|rfl|rfl<;>simp) (by simp;omega)
   have r1: ∀j,wr.frozen? ⟨w,j,none⟩=false:=fun j=>by rw[aTw (w:=w1.alloc (.cells #[(-1:Int),(),()] 53)) (d.block _ (by simp;omega) (by simp;omega)),aTw (aUb _ _ _ (by simpa using f)),x _ _ (by simp)];simp
   have aq:=r0 0 (by omega);have ar:=r0 1 (by omega);have au:=r0 2 (by omega);have av:=r1 0;have aw:=r1 1;have ax:=r1 2;clear d hB r0 r1 u x e0;by_cases hlt:k<5
   ·by_cases hpk:p=bT k
    ·have hb:(p==bT (k:Int))=true:=by simp[hpk]
     have h:=xQ hpk;clear hpk;go_wp2;go_region_held3 (fun w'=>w'.cell? ⟨g,0,none⟩=some (str p)) (go_keep) ((go_at_call 53;refine(hU k _ (by omega)).mono ?_;rintro e w2 ⟨rfl,rfl⟩));all_goals go_wp2
     all_goals go_roundw
     all_goals first
      |(case rel=>exact⟨k+1,by omega,by go_num,by rw[xN h.out];exact aUa s.out _,rJ (kJ HG.out) _ _⟩)
      |(case measure=>simp[intOf];omega)
    have hb:(p==bT (k:Int))=false:=by simp[hpk]
    have h:=xQ hpk;clear hpk;go_wp2;go_region_held3 (fun w'=>w'.cell? ⟨g,0,none⟩=some (str p)) (go_keep) ((go_at_call 53;refine(hU k _ (by omega)).mono ?_;rintro e w2 ⟨rfl,rfl⟩));all_goals go_wp2
    all_goals go_roundw
    all_goals first
     |(case rel=>exact⟨k+1,by omega,by go_num,by rw[aBz h.out];exact s.out,kJ HG.out⟩)
     |(case measure=>simp[intOf];omega)
   obtain rfl:k=5:=by omega
   have ak:Ext w wr:=oI (h1' h1) HG (by omega);go_wp2_with fail;refine(HR _).mono ?_;rintro e w2 ⟨rfl,rfl⟩;go_wp2_with fail;refine(y _).mono ?_;rintro e w2 ⟨rfl,rfl⟩;by_cases h0:l= []
   ·have hl:l.isEmpty=true:=by simp[h0]
    obtain rfl:none=o:=by have e:=HO.out;rwa[if_neg (by simp[h0])]at e
    clear h0;go_wp2;exact bodyPost_ret (v:=rdV none) (by simp[results,results22,go_sem, *];rfl) rfl ⟨rfl,xE⟩
   have hl:l.isEmpty=false:=by simp[h0]
   by_cases hh:t=l
   ·have ht:(t==l)=true:=by simp[hh]
    obtain rfl:some (jT p 5,a,b)=o:=by have e:=HO.out;rwa[if_pos ⟨h0,hh⟩]at e
    clear h0 hh;go_wp2_with fail;refine Z (HD _) fun w2 h2=>?_
    obtain⟨z,aa⟩:=h2.cells;have m:(w1:Nat)<w2:=aRo (by first|omega|(simp;omega)) h2.sz;have ag:(w:Nat)<w2:=aTp f m;have ah:(w1:Nat)<wr:=by omega
    have ai:(w:Nat)<wr:=by omega
    go_wp2;exact bodyPost_ret (v:=rdV (some (_,a,b))) (by simp[results,results22,go_sem, *];rfl) rfl ⟨rfl,xE⟩
   have ht:(t==l)=false:=by simp[hh]
   obtain rfl:none=o:=by have e:=HO.out;rwa[if_neg (by simp[hh])]at e
   clear h0 hh;go_wp2_with fail;refine Z (HD _) fun w2 h2=>?_
   obtain⟨z,aa⟩:=h2.cells;have m:(w1:Nat)<w2:=aRo (by first|omega|(simp;omega)) h2.sz;have ag:(w:Nat)<w2:=aTp f m;have ah:(w1:Nat)<wr:=by omega
   have ai:(w:Nat)<wr:=by omega
   go_wp2;exact bodyPost_ret (v:=rdV none) (by simp[results,results22,go_sem, *];rfl) rfl ⟨rfl,xE⟩
end
theorem aH1 (q:List UInt8)(hq:q.length≤maxLen)(w:World):U 54 #[str q] w fun e w'=>e= .returned (I ((dR 4 q).getD (-1)))∧w=w':=
 xL ⟨q.toArray⟩ w (by simpa[ByteArray.size]using hq)
theorem nR (l:List UInt8)(d:Int×Int×Int)(h:iZ (cL 32 l)=d):lU l=if l≠ []∧bL d.1 d.2.1 d.2.2=l then some d else none:=by unfold lU;rw[h]
theorem aB8 (l:List UInt8)(w:World)(hs:l.length≤1099511627776):U 22 #[str l] w (lA (bY l) w):=by
 rw[←aD8]
 have hS: ∀w,U 52 #[str l,.int .u8 32] w fun e w'=> ∃v,e= .returned v∧w'.ownsRow w 9 1 v (cL 32 l).length (gI (cL 32 l))∧Ext w w':=
  fun w=>aAa ⟨l.toArray⟩ 32 32 rfl w (by simpa[ByteArray.size]using hs)
 have f:=yK 32 l;have d:(cL 32 l).length≤1099511627777:=by omega
 have c: ∀q∈cL 32 l,Hid (∀w,U 54 #[str q] w fun e w'=>e= .returned (I ((dR 4 q).getD (-1)))∧w=w'):=
  fun q hq w=>aH1 q (by have:=f.1 q hq;unfold maxLen;omega) w
 have hD: ∀k a b,Hid (∀w,U 55 #[fU k a b] w (O (str (bL k a b)) w)):=fun k a b w=>aM7 k a b w
 rcases hc:cL 32 l with _|⟨p,_|⟨q,_|⟨r,g⟩⟩⟩
 ·exact absurd hc (kO 32 l)
 ·rw[nR l (jT p 5,0,0) (by rw[hc,uA];rfl)];rw[hc]at hS c;exact aJf l w [p] 1 p _ rfl (by omega) (by omega) rfl hS (hD _ _ _)
 ·rw[nR l (jT p 5,(dR 4 q).getD (-1),0) (by rw[hc,uA];rfl)];rw[hc]at hS c;exact aJe l w [p,q] 2 p q _ _ rfl (by omega) (by omega) rfl rfl hS (c q (by simp)) (hD _ _ _)
 rw[nR l (jT p 5,(dR 4 q).getD (-1),(dR 4 r).getD (-1)) (by rw[hc,uA];rfl)];rw[hc]at hS c d;exact aJd l w (p::q::r::g) _ p q r _ _ _ (by simp) (by simp) d rfl rfl rfl hS (c q (by simp)) (c r (by simp)) (hD _ _ _)
section
open Go.ChangeShapes Go.WideShapes Go.ChangeAt Go.Deep
def RdZ (w:World)(v:Value)(n sz:Nat)(cs:List Value):Prop:=
 (n=0∧cs= []∧ ∃p cap,v= .slice p 0 cap)∨(0<n∧ ∃b off cap,v= .slice (some ⟨b,off,none⟩) n cap∧b<w.heap.size∧Rd w v n sz cs)
theorem RdZ.ext {w w':World}{v:Value}{n sz:Nat}{cs:List Value}(h:RdZ w v n sz cs)(hx:Ext w w'):RdZ w' v n sz cs:=by
 rcases h with h|⟨h0,b,c,a,rfl,hb,h⟩
 ·exact .inl h
 exact .inr ⟨h0,b,c,a,rfl,aRo hb hx.sz,h.ext hx⟩
section
variable {H:Type} {enc:TypeId×Value→H} {w:World} {base:Nat} {spare:Nat→Bool} {held:Bool} {b0:Nat} {r:Reach} {v:Value} {d:DataW H} {p:List MemPlace}
end
end
theorem aR2 {h:aL}(a:aR h=true){id:Int}{v:aP}(hv:eA id h.vs=some v):bB h id=cC h.free h.step h.aD h.aF v.2.1 v.2.2.1 v.2.2.2 h.aC:=by unfold bB cV;rw[if_pos a,hv];rfl
theorem aP8 {h:aL}(a:aR h=true){id amt:Int}{g:aL}{n:Int}(hd:oY h id amt=some (g,n)):
  ∃v,eA id h.vs=some v∧1≤amt∧amt≤300∧1≤bB h id∧n=amt-min (bB h id) amt∧h.aG+min (bB h id) amt≤99999∧
   g={h with aG:=h.aG+min (bB h id) amt,vs:=h.vs.set (vix id h.vs).toNat (id,v.2.1,v.2.2.1+min (bB h id) amt,h.aC)}:=by
 obtain⟨q1,q2,q3,q4,q5⟩:=(eL h).1 a;unfold oY at hd;split at hd
 ·cases hd
 rename_i v hv;obtain⟨v1,v2,v3,v4,v5,v6⟩:=kR hv;obtain⟨s1,s2⟩:=(iY _ _).1 (q5 v (aRs v3));obtain⟨b1,b2⟩:=kE q2 s1 s2 q3.2.1;have hD:=aR2 a hv;rw[←hD]at b1 b2;by_cases ha:1≤amt∧amt≤300
 ·by_cases hn:bB h id=0
  ·have hp:(fS h.free h.step h.aD h.aF v.2.1 v.2.2.1 v.2.2.2 h.aC amt).2.2=false:=by unfold fS;rw[if_pos ha,←hD,if_pos hn]
   rw[if_neg (by rw[hp];simp)]at hd;cases hd
  have hp:fS h.free h.step h.aD h.aF v.2.1 v.2.2.1 v.2.2.2 h.aC amt=((v.2.1,v.2.2.1+min (bB h id) amt,h.aC),amt-min (bB h id) amt,true):=by unfold fS;rw[if_pos ha,←hD,if_neg hn]
  rw[hp]at hd;dsimp only at hd;by_cases hb:h.aG+amt-(amt-min (bB h id) amt)≤99999
  ·rw[if_pos ⟨rfl,hb⟩]at hd;injection hd with hd;simp only[aSy]at hd;obtain⟨rfl,rfl⟩:=hd;refine⟨v,hv,ha.1,ha.2,by omega,rfl,by omega,?_⟩;rw[show h.aG+amt-(amt-min (bB h id) amt)=h.aG+min (bB h id) amt by omega]
  rw[if_neg (fun hh=>hb hh.2)]at hd;cases hd
 have hp:(fS h.free h.step h.aD h.aF v.2.1 v.2.2.1 v.2.2.2 h.aC amt).2.2=false:=by unfold fS;rw[if_neg ha]
 rw[if_neg (by rw[hp];simp)]at hd;cases hd
end Go.Proofs.YtbgkcehffiogcacGreatDoor
