/-
  Texts of this proof, packed (@packed).
-/
import Derived.Test.YtomgkjinhnkpnaaGreatDoorX24
namespace Go.Proofs.YtomgkjinhnkpnaaGreatDoor
open Go.RowKit
set_option linter.unusedSimpArgs false
set_option linter.unusedVariables false
set_option maxHeartbeats 8000000
set_option maxRecDepth 100000
section
open Go.Proofs.Tryz
def jY (p:List UInt8):Nat→Int
 |0=> -1
 |k+1=>if p=bT k then k else jY p k
theorem uM (p:List UInt8):jY p 5=(iV p).getD (-1):=by
 cases h:iV p with
 |none=>obtain⟨n1,n2,n3,n4,n5⟩:=pP h;simp only[beq_eq_false_iff_ne,ne_eq]at n1 n2 n3 n4 n5;simp[jY,bT,n1,n2,n3,n4,n5]
 |some k=>rcases fO h with⟨rfl,rfl⟩|⟨rfl,rfl⟩|⟨rfl,rfl⟩|⟨rfl,rfl⟩|⟨rfl,rfl⟩<;>decide
theorem yD {p:List UInt8}{k:Nat}(h:p=bT k):jY p (k+1)=k:=by simp[jY,h]
theorem aC9 {p:List UInt8}{k:Nat}(h:p≠bT k):jY p (k+1)=jY p k:=by simp[jY,h]
theorem rX {W0 wr:World}{B:Nat}(hg:W0.grownBy wr (some B))(o:Nat)(v:Value):W0.grownBy (wr.setCell ⟨B,o,none⟩ v) (some B):=
 ⟨hg.os,hg.tape,hg.output,by simpa using hg.size,fun k hk hne=>by rw[aTw _ _ _ _ (fun e=>hne (by simp[e]))];exact hg.block k hk hne⟩
theorem kP {W0 wr:World}{r:Option Nat}(hg:W0.grownBy wr r):W0.grownBy wr.drew r:=⟨hg.os,hg.tape,hg.output,hg.size,hg.block⟩
theorem oR {w W0 wr:World}{B:Nat}(h:Ext w W0)(hg:W0.grownBy wr (some B))(hB:w.heap.size≤B):Ext w wr:=h.grown hg (fun k hk=>by simp at hk;omega)
theorem h1' {w w1:World}{o o2:Obj}(h:Ext (w.alloc o) w1):Ext w (w1.alloc o2):=(((Ext.refl w).alloc o).trans h).alloc o2
theorem aJq (l:List UInt8)(w:World)(ps:List (List UInt8))(n:Nat)(p t:List UInt8)(hn:n=1)(af:1≤n)(ag:n≤1099511627777)
  (u:ps[0]? =some p)
  (HS:Hid (∀w,U 61 #[str l,.int .u8 32] w fun e w'=> ∃v,e= .returned v∧w'.ownsRow w 9 1 v n (iB ps)∧Ext w w'))
  (HD:Hid (∀w,U 46 #[eN (jY p 5) 0 0] w (O (str t) w))):
  U 21 #[str l] w (kI (if l≠ []∧t=l then some (jY p 5,0,0)else none) w):=by
  obtain⟨o,ho⟩: ∃o:Option (Int×Int×Int),(if l≠ []∧t=l then some (jY p 5,0,0)else none)=o:=⟨_,rfl⟩
  rw[ho];have HO:=xQ ho;clear ho;go_enter func21,ntmps21;go_wp2_with fail;refine(HS _).mono ?_;rintro e w1 ⟨v,rfl,a,h1⟩;obtain⟨g,ab,rfl⟩:=aSn a (by omega);have e0:=bB a 0 (by omega) _ u;have hg:=(a.lt g rfl).2;have c:(w:Nat)<w1:=aRf (by simp) h1.sz;have ae:w.heap.size<g:=aRf (by simp) (a.lt g rfl).1;obtain⟨m,q⟩:=h1.cells;clear a;go_wp2;go_loopw [6] (fun i wr=> ∃k:Nat,k≤5∧i=I k∧wr.heap[w1.heap.size]? =some (.cells #[(jY p k:Int),(),()] 38 (0,0))∧(w1.alloc (.cells #[(-1:Int),(),()] 38)).grownBy wr (some w1)) (fun i _=>5-(intOf i).toNat)
  case atStart=>exact⟨0,by omega,rfl,by rw[heap_alloc_new];rfl,aT1 _ _⟩
  case round=>
   obtain⟨k,hk,rfl,hB,b⟩:=hrel;have b0:wr.cell? ⟨w1,0,none⟩=some (I (jY p k)):=aT6 hB 0;have b1:wr.cell? ⟨w1,1,none⟩=some (I 0):=aT6 hB 1;have b2:wr.cell? ⟨w1,2,none⟩=some (I 0):=aT6 hB 2;have u0:=aSw hB 0;have u1:=aSw hB 1;have u2:=aSw hB 2;have HG:=xQ b;have h:=xQ hB;have x:=b.size;simp only[aTz]at x;have g0:wr.cell? ⟨g,0,none⟩=some (str p):=b.cell (by rw[aSu _ _ _ (by simpa using hg)];exact e0) (by simp;omega);have r0: ∀j,j<3→wr.cell? ⟨w,j,none⟩=some (I 0):=fun j hj=>b.cell (by rw[aSu _ _ _ (by simpa using c),m _ _ (by simp)];rcases(show j=0∨j=1∨j=2 by omega)with rfl|rfl|rfl<;>simp) (by simp;omega)
   have r1: ∀j,wr.frozen? ⟨w,j,none⟩=false:=fun j=>by rw[aTj (w:=w1.alloc (.cells #[(-1:Int),(),()] 38)) (b.block _ (by simp;omega) (by simp;omega)),aTj (aU0 _ _ _ (by simpa using c)),q _ _ (by simp)];simp
   have ah:=r0 0 (by omega);have ai:=r0 1 (by omega);have aj:=r0 2 (by omega);have ak:=r1 0;have al:=r1 1;have am:=r1 2;clear b hB r0 r1 m q e0;by_cases hlt:k<5
   ·by_cases hpk:p=bT k
    ·have hb:(p==bT (k:Int))=true:=by simp[hpk]
     have d:=xQ hpk;clear hpk;go_wp2;go_region_held3 (fun w'=>w'.cell? ⟨g,0,none⟩=some (str p)) (go_keep) ((go_at_call 62;refine(iE k _ (by omega)).mono ?_;rintro e w2 ⟨rfl,rfl⟩));all_goals go_wp2
     all_goals go_roundw
     all_goals first
      |(case rel=>exact⟨k+1,by omega,by go_num,by rw[yD d.out];exact aTy h.out _,rX (kP HG.out) _ _⟩)
      |(case measure=>simp[intOf];omega)
    have hb:(p==bT (k:Int))=false:=by simp[hpk]
    have d:=xQ hpk;clear hpk;go_wp2;go_region_held3 (fun w'=>w'.cell? ⟨g,0,none⟩=some (str p)) (go_keep) ((go_at_call 62;refine(iE k _ (by omega)).mono ?_;rintro e w2 ⟨rfl,rfl⟩));all_goals go_wp2
    all_goals go_roundw
    all_goals first
     |(case rel=>exact⟨k+1,by omega,by go_num,by rw[aC9 d.out];exact h.out,kP HG.out⟩)
     |(case measure=>simp[intOf];omega)
   obtain rfl:k=5:=by omega
   have ad:Ext w wr:=oR (h1' h1) HG (by omega);by_cases h0:l= []
   ·have hl:l.isEmpty=true:=by simp[h0]
    obtain rfl:none=o:=by have e:=HO.out;rwa[if_neg (by simp[h0])]at e
    clear h0;go_wp2;exact bodyPost_ret (v:=rdV none) (by simp[results,results21,go_sem, *];rfl) rfl ⟨rfl,xE⟩
   have hl:l.isEmpty=false:=by simp[h0]
   by_cases hh:t=l
   ·have ht:(t==l)=true:=by simp[hh]
    obtain rfl:some (jY p 5,0,0)=o:=by have e:=HO.out;rwa[if_pos ⟨h0,hh⟩]at e
    clear h0 hh;go_wp2_with fail;refine Z (HD _) fun w2 h2=>?_
    obtain⟨r,s⟩:=h2.cells;have f:(w1:Nat)<w2:=aRf (by first|omega|(simp;omega)) h2.sz;have y:(w:Nat)<w2:=aTc c f;have z:(w1:Nat)<wr:=by omega
    have aa:(w:Nat)<wr:=by omega
    go_wp2;exact bodyPost_ret (v:=rdV (some (_,0,0))) (by simp[results,results21,go_sem, *];rfl) rfl ⟨rfl,xE⟩
   have ht:(t==l)=false:=by simp[hh]
   obtain rfl:none=o:=by have e:=HO.out;rwa[if_neg (by simp[hh])]at e
   clear h0 hh;go_wp2_with fail;refine Z (HD _) fun w2 h2=>?_
   obtain⟨r,s⟩:=h2.cells;have f:(w1:Nat)<w2:=aRf (by first|omega|(simp;omega)) h2.sz;have y:(w:Nat)<w2:=aTc c f;have z:(w1:Nat)<wr:=by omega
   have aa:(w:Nat)<wr:=by omega
   go_wp2;exact bodyPost_ret (v:=rdV none) (by simp[results,results21,go_sem, *];rfl) rfl ⟨rfl,xE⟩
theorem aJp (l:List UInt8)(w:World)(ps:List (List UInt8))(n:Nat)(p q t:List UInt8)(a:Int)(hn:n=2)(ai:1≤n)(aj:n≤1099511627777)
  (y:ps[0]? =some p) (z:ps[1]? =some q)
  (HS:Hid (∀w,U 61 #[str l,.int .u8 32] w fun e w'=> ∃v,e= .returned v∧w'.ownsRow w 9 1 v n (iB ps)∧Ext w w'))
  (HR:Hid (∀w,U 63 #[str q] w fun e w'=>e= .returned (I a)∧w=w'))
  (HD:Hid (∀w,U 46 #[eN (jY p 5) a 0] w (O (str t) w))):
  U 21 #[str l] w (kI (if l≠ []∧t=l then some (jY p 5,a,0)else none) w):=by
  obtain⟨o,ho⟩: ∃o:Option (Int×Int×Int),(if l≠ []∧t=l then some (jY p 5,a,0)else none)=o:=⟨_,rfl⟩
  rw[ho];have HO:=xQ ho;clear ho;go_enter func21,ntmps21;go_wp2_with fail;refine(HS _).mono ?_;rintro e w1 ⟨v,rfl,b,h1⟩;obtain⟨g,af,rfl⟩:=aSn b (by omega);have e0:=bB b 0 (by omega) _ y;have e1:=bB b 1 (by omega) _ z;have hg:=(b.lt g rfl).2;have d:(w:Nat)<w1:=aRf (by simp) h1.sz;have ah:w.heap.size<g:=aRf (by simp) (b.lt g rfl).1;obtain⟨r,s⟩:=h1.cells;clear b;go_wp2;go_loopw [6] (fun i wr=> ∃k:Nat,k≤5∧i=I k∧wr.heap[w1.heap.size]? =some (.cells #[(jY p k:Int),(),()] 38 (0,0))∧(w1.alloc (.cells #[(-1:Int),(),()] 38)).grownBy wr (some w1)) (fun i _=>5-(intOf i).toNat)
  case atStart=>exact⟨0,by omega,rfl,by rw[heap_alloc_new];rfl,aT1 _ _⟩
  case round=>
   obtain⟨k,hk,rfl,hB,c⟩:=hrel;have b0:wr.cell? ⟨w1,0,none⟩=some (I (jY p k)):=aT6 hB 0;have b1:wr.cell? ⟨w1,1,none⟩=some (I 0):=aT6 hB 1;have b2:wr.cell? ⟨w1,2,none⟩=some (I 0):=aT6 hB 2;have u0:=aSw hB 0;have u1:=aSw hB 1;have u2:=aSw hB 2;have HG:=xQ c;have m:=xQ hB;have aa:=c.size;simp only[aTz]at aa;have g0:wr.cell? ⟨g,0,none⟩=some (str p):=c.cell (by rw[aSu _ _ _ (by simpa using hg)];exact e0) (by simp;omega);have g1:wr.cell? ⟨g,1,none⟩=some (str q):=c.cell (by rw[aSu _ _ _ (by simpa using hg)];exact e1) (by simp;omega);have r0: ∀j,j<3→wr.cell? ⟨w,j,none⟩=some (I 0):=fun j hj=>c.cell (by rw[aSu _ _ _ (by simpa using d),r _ _ (by simp)];rcases(show j=0∨j=1∨j=2 by omega)with rfl|rfl|rfl<;>simp) (by simp;omega)
   have r1: ∀j,wr.frozen? ⟨w,j,none⟩=false:=fun j=>by rw[aTj (w:=w1.alloc (.cells #[(-1:Int),(),()] 38)) (c.block _ (by simp;omega) (by simp;omega)),aTj (aU0 _ _ _ (by simpa using d)),s _ _ (by simp)];simp
   have ak:=r0 0 (by omega);have al:=r0 1 (by omega);have am:=r0 2 (by omega);have an:=r1 0;have ao:=r1 1;have ap:=r1 2;clear c hB r0 r1 r s e0;by_cases hlt:k<5
   ·by_cases hpk:p=bT k
    ·have hb:(p==bT (k:Int))=true:=by simp[hpk]
     have f:=xQ hpk;clear hpk;go_wp2;go_region_held3 (fun w'=>w'.cell? ⟨g,0,none⟩=some (str p)) (go_keep) ((go_at_call 62;refine(iE k _ (by omega)).mono ?_;rintro e w2 ⟨rfl,rfl⟩));all_goals go_wp2
     all_goals go_roundw
     all_goals first
      |(case rel=>exact⟨k+1,by omega,by go_num,by rw[yD f.out];exact aTy m.out _,rX (kP HG.out) _ _⟩)
      |(case measure=>simp[intOf];omega)
    have hb:(p==bT (k:Int))=false:=by simp[hpk]
    have f:=xQ hpk;clear hpk;go_wp2;go_region_held3 (fun w'=>w'.cell? ⟨g,0,none⟩=some (str p)) (go_keep) ((go_at_call 62;refine(iE k _ (by omega)).mono ?_;rintro e w2 ⟨rfl,rfl⟩));all_goals go_wp2
    all_goals go_roundw
    all_goals first
     |(case rel=>exact⟨k+1,by omega,by go_num,by rw[aC9 f.out];exact m.out,kP HG.out⟩)
     |(case measure=>simp[intOf];omega)
   obtain rfl:k=5:=by omega
   have ag:Ext w wr:=oR (h1' h1) HG (by omega);go_wp2_with fail;refine(HR _).mono ?_;rintro e w2 ⟨rfl,rfl⟩;by_cases h0:l= []
   ·have hl:l.isEmpty=true:=by simp[h0]
    obtain rfl:none=o:=by have e:=HO.out;rwa[if_neg (by simp[h0])]at e
    clear h0;go_wp2;exact bodyPost_ret (v:=rdV none) (by simp[results,results21,go_sem, *];rfl) rfl ⟨rfl,xE⟩
   have hl:l.isEmpty=false:=by simp[h0]
   by_cases hh:t=l
   ·have ht:(t==l)=true:=by simp[hh]
    obtain rfl:some (jY p 5,a,0)=o:=by have e:=HO.out;rwa[if_pos ⟨h0,hh⟩]at e
    clear h0 hh;go_wp2_with fail;refine Z (HD _) fun w2 h2=>?_
    obtain⟨u,x⟩:=h2.cells;have h:(w1:Nat)<w2:=aRf (by first|omega|(simp;omega)) h2.sz;have ab:(w:Nat)<w2:=aTc d h;have ad:(w1:Nat)<wr:=by omega
    have ae:(w:Nat)<wr:=by omega
    go_wp2;exact bodyPost_ret (v:=rdV (some (_,a,0))) (by simp[results,results21,go_sem, *];rfl) rfl ⟨rfl,xE⟩
   have ht:(t==l)=false:=by simp[hh]
   obtain rfl:none=o:=by have e:=HO.out;rwa[if_neg (by simp[hh])]at e
   clear h0 hh;go_wp2_with fail;refine Z (HD _) fun w2 h2=>?_
   obtain⟨u,x⟩:=h2.cells;have h:(w1:Nat)<w2:=aRf (by first|omega|(simp;omega)) h2.sz;have ab:(w:Nat)<w2:=aTc d h;have ad:(w1:Nat)<wr:=by omega
   have ae:(w:Nat)<wr:=by omega
   go_wp2;exact bodyPost_ret (v:=rdV none) (by simp[results,results21,go_sem, *];rfl) rfl ⟨rfl,xE⟩
theorem aJo (l:List UInt8)(w:World)(ps:List (List UInt8))(n:Nat)(p q r t:List UInt8)(a b:Int)(hn:3≤n)(am:1≤n)(an:n≤1099511627777)
  (ab:ps[0]? =some p) (ad:ps[1]? =some q) (ae:ps[2]? =some r)
  (HS:Hid (∀w,U 61 #[str l,.int .u8 32] w fun e w'=> ∃v,e= .returned v∧w'.ownsRow w 9 1 v n (iB ps)∧Ext w w'))
  (HR:Hid (∀w,U 63 #[str q] w fun e w'=>e= .returned (I a)∧w=w'))
  (y:Hid (∀w,U 63 #[str r] w fun e w'=>e= .returned (I b)∧w=w'))
  (HD:Hid (∀w,U 46 #[eN (jY p 5) a b] w (O (str t) w))):
  U 21 #[str l] w (kI (if l≠ []∧t=l then some (jY p 5,a,b)else none) w):=by
  obtain⟨o,ho⟩: ∃o:Option (Int×Int×Int),(if l≠ []∧t=l then some (jY p 5,a,b)else none)=o:=⟨_,rfl⟩
  rw[ho];have HO:=xQ ho;clear ho;go_enter func21,ntmps21;go_wp2_with fail;refine(HS _).mono ?_;rintro e w1 ⟨v,rfl,c,h1⟩;obtain⟨g,aj,rfl⟩:=aSn c (by omega);have ao:(0:Int)<(n:Int):=by omega
  have ap:0<n:=by omega
  have e0:=bB c 0 (by omega) _ ab;have e1:=bB c 1 (by omega) _ ad;have e2:=bB c 2 (by omega) _ ae;have hg:=(c.lt g rfl).2;have f:(w:Nat)<w1:=aRf (by simp) h1.sz;have al:w.heap.size<g:=aRf (by simp) (c.lt g rfl).1;obtain⟨u,x⟩:=h1.cells;clear c;go_wp2;go_loopw [6] (fun i wr=> ∃k:Nat,k≤5∧i=I k∧wr.heap[w1.heap.size]? =some (.cells #[(jY p k:Int),(),()] 38 (0,0))∧(w1.alloc (.cells #[(-1:Int),(),()] 38)).grownBy wr (some w1)) (fun i _=>5-(intOf i).toNat)
  case atStart=>exact⟨0,by omega,rfl,by rw[heap_alloc_new];rfl,aT1 _ _⟩
  case round=>
   obtain⟨k,hk,rfl,hB,d⟩:=hrel;have b0:wr.cell? ⟨w1,0,none⟩=some (I (jY p k)):=aT6 hB 0;have b1:wr.cell? ⟨w1,1,none⟩=some (I 0):=aT6 hB 1;have b2:wr.cell? ⟨w1,2,none⟩=some (I 0):=aT6 hB 2;have u0:=aSw hB 0;have u1:=aSw hB 1;have u2:=aSw hB 2;have HG:=xQ d;have s:=xQ hB;have af:=d.size;simp only[aTz]at af;have g0:wr.cell? ⟨g,0,none⟩=some (str p):=d.cell (by rw[aSu _ _ _ (by simpa using hg)];exact e0) (by simp;omega);have g1:wr.cell? ⟨g,1,none⟩=some (str q):=d.cell (by rw[aSu _ _ _ (by simpa using hg)];exact e1) (by simp;omega);have g2:wr.cell? ⟨g,2,none⟩=some (str r):=d.cell (by rw[aSu _ _ _ (by simpa using hg)];exact e2) (by simp;omega);have r0: ∀j,j<3→wr.cell? ⟨w,j,none⟩=some (I 0):=fun j hj=>d.cell (by rw[aSu _ _ _ (by simpa using f),u _ _ (by simp)];rcases(show j=0∨j=1∨j=2 by omega)with rfl|rfl|rfl<;>simp) (by simp;omega)
   have r1: ∀j,wr.frozen? ⟨w,j,none⟩=false:=fun j=>by rw[aTj (w:=w1.alloc (.cells #[(-1:Int),(),()] 38)) (d.block _ (by simp;omega) (by simp;omega)),aTj (aU0 _ _ _ (by simpa using f)),x _ _ (by simp)];simp
   have aq:=r0 0 (by omega);have ar:=r0 1 (by omega);have au:=r0 2 (by omega);have av:=r1 0;have aw:=r1 1;have ax:=r1 2;clear d hB r0 r1 u x e0;by_cases hlt:k<5
   ·by_cases hpk:p=bT k
    ·have hb:(p==bT (k:Int))=true:=by simp[hpk]
     have h:=xQ hpk;clear hpk;go_wp2;go_region_held3 (fun w'=>w'.cell? ⟨g,0,none⟩=some (str p)) (go_keep) ((go_at_call 62;refine(iE k _ (by omega)).mono ?_;rintro e w2 ⟨rfl,rfl⟩));all_goals go_wp2
     all_goals go_roundw
     all_goals first
      |(case rel=>exact⟨k+1,by omega,by go_num,by rw[yD h.out];exact aTy s.out _,rX (kP HG.out) _ _⟩)
      |(case measure=>simp[intOf];omega)
    have hb:(p==bT (k:Int))=false:=by simp[hpk]
    have h:=xQ hpk;clear hpk;go_wp2;go_region_held3 (fun w'=>w'.cell? ⟨g,0,none⟩=some (str p)) (go_keep) ((go_at_call 62;refine(iE k _ (by omega)).mono ?_;rintro e w2 ⟨rfl,rfl⟩));all_goals go_wp2
    all_goals go_roundw
    all_goals first
     |(case rel=>exact⟨k+1,by omega,by go_num,by rw[aC9 h.out];exact s.out,kP HG.out⟩)
     |(case measure=>simp[intOf];omega)
   obtain rfl:k=5:=by omega
   have ak:Ext w wr:=oR (h1' h1) HG (by omega);go_wp2_with fail;refine(HR _).mono ?_;rintro e w2 ⟨rfl,rfl⟩;go_wp2_with fail;refine(y _).mono ?_;rintro e w2 ⟨rfl,rfl⟩;by_cases h0:l= []
   ·have hl:l.isEmpty=true:=by simp[h0]
    obtain rfl:none=o:=by have e:=HO.out;rwa[if_neg (by simp[h0])]at e
    clear h0;go_wp2;exact bodyPost_ret (v:=rdV none) (by simp[results,results21,go_sem, *];rfl) rfl ⟨rfl,xE⟩
   have hl:l.isEmpty=false:=by simp[h0]
   by_cases hh:t=l
   ·have ht:(t==l)=true:=by simp[hh]
    obtain rfl:some (jY p 5,a,b)=o:=by have e:=HO.out;rwa[if_pos ⟨h0,hh⟩]at e
    clear h0 hh;go_wp2_with fail;refine Z (HD _) fun w2 h2=>?_
    obtain⟨z,aa⟩:=h2.cells;have m:(w1:Nat)<w2:=aRf (by first|omega|(simp;omega)) h2.sz;have ag:(w:Nat)<w2:=aTc f m;have ah:(w1:Nat)<wr:=by omega
    have ai:(w:Nat)<wr:=by omega
    go_wp2;exact bodyPost_ret (v:=rdV (some (_,a,b))) (by simp[results,results21,go_sem, *];rfl) rfl ⟨rfl,xE⟩
   have ht:(t==l)=false:=by simp[hh]
   obtain rfl:none=o:=by have e:=HO.out;rwa[if_neg (by simp[hh])]at e
   clear h0 hh;go_wp2_with fail;refine Z (HD _) fun w2 h2=>?_
   obtain⟨z,aa⟩:=h2.cells;have m:(w1:Nat)<w2:=aRf (by first|omega|(simp;omega)) h2.sz;have ag:(w:Nat)<w2:=aTc f m;have ah:(w1:Nat)<wr:=by omega
   have ai:(w:Nat)<wr:=by omega
   go_wp2;exact bodyPost_ret (v:=rdV none) (by simp[results,results21,go_sem, *];rfl) rfl ⟨rfl,xE⟩
end
theorem aHd (q:List UInt8)(hq:q.length≤maxLen)(w:World):U 63 #[str q] w fun e w'=>e= .returned (I ((dQ 4 q).getD (-1)))∧w=w':=
 yB ⟨q.toArray⟩ w (by simpa[ByteArray.size]using hq)
theorem oA (l:List UInt8)(d:Int×Int×Int)(h:jF (cN 32 l)=d):lX l=if l≠ []∧bD d.1 d.2.1 d.2.2=l then some d else none:=by unfold lX;rw[h]
theorem aBk (l:List UInt8)(w:World)(hs:l.length≤1099511627776):U 21 #[str l] w (kI (bN l) w):=by
 rw[←aDf]
 have hS: ∀w,U 61 #[str l,.int .u8 32] w fun e w'=> ∃v,e= .returned v∧w'.ownsRow w 9 1 v (cN 32 l).length (iB (cN 32 l))∧Ext w w':=
  fun w=>aAv ⟨l.toArray⟩ 32 32 rfl w (by simpa[ByteArray.size]using hs)
 have f:=yX 32 l;have d:(cN 32 l).length≤1099511627777:=by omega
 have c: ∀q∈cN 32 l,Hid (∀w,U 63 #[str q] w fun e w'=>e= .returned (I ((dQ 4 q).getD (-1)))∧w=w'):=
  fun q hq w=>aHd q (by have:=f.1 q hq;unfold maxLen;omega) w
 have hD: ∀k a b,Hid (∀w,U 46 #[eN k a b] w (O (str (bD k a b)) w)):=fun k a b w=>aDp k a b w
 rcases hc:cN 32 l with _|⟨p,_|⟨q,_|⟨r,g⟩⟩⟩
 ·exact absurd hc (kS 32 l)
 ·rw[oA l (jY p 5,0,0) (by rw[hc,uM];rfl)];rw[hc]at hS c;exact aJq l w [p] 1 p _ rfl (by omega) (by omega) rfl hS (hD _ _ _)
 ·rw[oA l (jY p 5,(dQ 4 q).getD (-1),0) (by rw[hc,uM];rfl)];rw[hc]at hS c;exact aJp l w [p,q] 2 p q _ _ rfl (by omega) (by omega) rfl rfl hS (c q (by simp)) (hD _ _ _)
 rw[oA l (jY p 5,(dQ 4 q).getD (-1),(dQ 4 r).getD (-1)) (by rw[hc,uM];rfl)];rw[hc]at hS c d;exact aJo l w (p::q::r::g) _ p q r _ _ _ (by simp) (by simp) d rfl rfl rfl hS (c q (by simp)) (c r (by simp)) (hD _ _ _)
section
open Go.ChangeShapes Go.WideShapes Go.ChangeAt Go.Deep
def RdZ (w:World)(v:Value)(n sz:Nat)(cs:List Value):Prop:=
 (n=0∧cs= []∧ ∃p cap,v= .slice p 0 cap)∨(0<n∧ ∃b off cap,v= .slice (some ⟨b,off,none⟩) n cap∧b<w.heap.size∧Rd w v n sz cs)
theorem RdZ.ext {w w':World}{v:Value}{n sz:Nat}{cs:List Value}(h:RdZ w v n sz cs)(hx:Ext w w'):RdZ w' v n sz cs:=by
 rcases h with h|⟨h0,b,c,a,rfl,hb,h⟩
 ·exact .inl h
 exact .inr ⟨h0,b,c,a,rfl,aRf hb hx.sz,h.ext hx⟩
section
variable {H:Type} {enc:TypeId×Value→H} {w:World} {base:Nat} {spare:Nat→Bool} {held:Bool} {b0:Nat} {r:Reach} {v:Value} {d:DataW H} {p:List MemPlace}
end
end
section
open Go.Proofs.Tryz
def aFp (R k:Nat)(w:World)(e:Ending)(w':World):Prop:= ∃s:ByteArray,e= .returned (.string s)∧s.size≤80∧Rand w' R (k+100)∧ExtR R w w'
theorem aN7 (a:Int)(h0:0≤a)(h1:a<6): ∃x:ByteArray,(#[.string ⟨#[104,97,108,108]⟩,.string ⟨#[99,108,111,99,107]⟩,.string ⟨#[98,97,110,107]⟩,.string ⟨#[111,119,101,100]⟩,.string ⟨#[104,111,117,115,101]⟩,.string ⟨#[101,110,100]⟩]:Array Value)[a.toNat]? =some (.string x)∧x.size≤8:=by rcases(show a=0∨a=1∨a=2∨a=3∨a=4∨a=5 by omega)with rfl|rfl|rfl|rfl|rfl|rfl;all_goals exact⟨_,rfl,by decide⟩
theorem aH5 (a:Int)(h0:0≤a)(h1:a<8): ∃x:ByteArray,(#[.string ⟨#[]⟩,.string ⟨#[105,110]⟩,.string ⟨#[105,110,32,48,49]⟩,.string ⟨#[100,117,101,32,120]⟩,.string ⟨#[109,97,121]⟩,.string ⟨#[32,104,97,108,108]⟩,.string ⟨#[111,117,116,32,55,32,55]⟩,.string ⟨#[112,97,121,32,55]⟩]:Array Value)[a.toNat]? =some (.string x)∧x.size≤8:=by rcases(show a=0∨a=1∨a=2∨a=3∨a=4∨a=5∨a=6∨a=7 by omega)with rfl|rfl|rfl|rfl|rfl|rfl|rfl|rfl;all_goals exact⟨_,rfl,by decide⟩
theorem aN6 (a:Int)(h0:0≤a)(h1:a<2): ∃x:ByteArray,(#[.string ⟨#[100,117,101,32]⟩,.string ⟨#[109,97,121,32]⟩]:Array Value)[a.toNat]? =some (.string x)∧x.size≤8:=by rcases(show a=0∨a=1 by omega)with rfl|rfl;all_goals exact⟨_,rfl,by decide⟩
theorem aEb (R k:Nat)(h:aM)(p:OA)(f:Nat)(q:OA)(c2:Nat)(w:World)(hr:Rand w R k)(hk:k≤1000000)(hs:h.cells.length≤100∧h.vs.length≤1000)
  (hi:IsHouse w h p h.cells.length f q h.vs.length c2)(hp:0<h.cells.length→ ∀b off,p=some ⟨b,off,none⟩→b≠R)(hq:0<h.vs.length→ ∀b off,q=some ⟨b,off,none⟩→b≠R):
  U 15 #[.pointer (some ⟨R,0,none⟩),bG h p h.cells.length f q h.vs.length c2] w (aFp R k w):=by
 have hR:=hr.lt;go_enter func15,ntmps15;go_wp2_with fail;refine(cI R k 6 _ (hr.ext xE) (by omega)).mono ?_;rintro e w1 ⟨c,rfl,c0,c1,r1,x1⟩;have X1:=xQ (show ExtR R w w1 from xR);have B1:=xQ (show Blk w1 w aK #[h.aA,h.aB,.slice p h.cells f,h.free,h.step,h.aD,h.aF,h.aC,h.aG,.slice q h.vs c2]from x1.blk (Blk.new w _ _) (by omega));clear x1;have i:=r1.lt;rcases(show c=0∨c=1∨c=2∨(3≤c∧c<6) by omega)with rfl|rfl|rfl|hc
 ·go_wp2_with fail;refine(cI R (k+1) 6 _ (r1.alloc _) (by omega)).mono ?_;rintro e w6 ⟨d,rfl,d0,d1,r6,x6⟩;obtain⟨x,hx,o⟩:=aN7 d d0 (by omega);have gl:w6.cell? ⟨w1,d.toNat,none⟩=some (.string x):=((x6.blk (Blk.new w1 _ _) (Nat.ne_of_gt i)).cell d.toNat).trans hx;go_wp2;go_ret;exact⟨_,rfl,by omega,r6.mono (by omega),X1.out.trans (((ExtR.refl _ _).alloc _).trans x6)⟩
 ·go_wp2_with fail;refine(cI R (k+1) 8 _ (r1.alloc _) (by omega)).mono ?_;rintro e w6 ⟨d,rfl,d0,d1,r6,x6⟩;obtain⟨x,hx,o⟩:=aH5 d d0 (by omega);have gl:w6.cell? ⟨w1,d.toNat,none⟩=some (.string x):=((x6.blk (Blk.new w1 _ _) (Nat.ne_of_gt i)).cell d.toNat).trans hx;go_wp2;go_ret;exact⟨_,rfl,by omega,r6.mono (by omega),X1.out.trans (((ExtR.refl _ _).alloc _).trans x6)⟩
 ·skip;go_upto_region 7 with fail;refine mM (gl [aCt w1 9 #[.string ⟨#[100,117,101,32]⟩,.string ⟨#[109,97,121,32]⟩] 2,gEq (.pointer (some ⟨R,0,none⟩)),aF7 (2),(fun v w'=> ∃g x:Nat,v= .pointer (some ⟨g,x,none⟩)∧x<2∧w1.heap.size≤g∧Blk w' g 9 #[.string ⟨#[100,117,101,32]⟩,.string ⟨#[109,97,121,32]⟩]),(fun v _=> ∃x:ByteArray,v= .string x∧x.size≤8),gEq (.pointer (some ⟨R,0,none⟩)),aF7 (12),(fun v _=> ∃a:Int,v=I a∧1≤a∧a≤12),(fun v _=> ∃x:ByteArray,v= .string x∧x.size≤21),(fun v _=> ∃x:ByteArray,v= .string x∧x.size≤29)]) R (k+1) 1 10 (by kernel_rfl) rfl (by kernel_rfl) (by kernel_rfl) (by kernel_rfl) r1 (tJ (bK (yP (by omega) _ _ _) (bK (dZ _) (bK (jB _) (bK (fun v w w' ⟨g,x,h1,h2,h3,h4⟩ hx=>⟨g,x,h1,h2,h3,ExtR.blk hx h4 (by omega)⟩) (bK (fun _ _ _ h _=>h) (bK (dZ _) (bK (jB _) (bK (fun _ _ _ h _=>h) (bK (fun _ _ _ h _=>h) (bK (fun _ _ _ h _=>h) (wR)))))))))))) rfl (k:=11) (by kernel_rfl) (by decide) (ls:= [(0,some 23),(1,some 24),(2,some 25),(3,some 26),(4,some 27),(5,some 28),(6,some 29),(7,some 30),(8,some 31),(9,some 32)]) (by kernel_rfl) (ir:= [0,1,2,3,4,5,6,7,8,9]) (by kernel_rfl) ?steps (tl:=#[true,true,true,true,true,true,true,true,true,true,false]) (by kernel_rfl) ?fin
  case steps=>
   refine sCr [] rfl (fun wi kk hx hr hkk=> ?_) ?_
   ·intro K hK;go_simp;exact hK _ _ ⟨.slice (some ⟨wi,0,none⟩) 2 2,rfl,⟨wi.heap.size,rfl,by have:=hx.sz;simp at this;omega,Blk.new _ _ _⟩,(fM hr ((Ext.refl _).alloc _))⟩
   refine sSr0 [] ?_;refine sCr [(1,some 24)] rfl (fun wi kk hx hr hkk=> ?_) ?_
   ·intro v1 h1 K hK;obtain rfl:=h1;go_wp2_with fail;refine(cI R kk (2) _ hr (by omega)).mono ?_;rintro e w5 ⟨x,rfl,xa,xb,r5,x5⟩;go_simp;exact hK _ _ ⟨I x,rfl,⟨x,rfl,xa,by have hp:(0:Int)<2:=(by omega);omega⟩,⟨x5,r5⟩⟩
   refine sCr [(0,some 23),(2,some 25)] rfl (fun wi kk hx hr hkk=> ?_) ?_
   ·intro v0 h0 v2 h2 K hK;obtain⟨g0,rfl,j,B0⟩:=h0;obtain⟨x2,rfl,l,m⟩:=h2;obtain⟨xn,rfl⟩:=aS9 l;have i1:(xn:Int)<2:=m;go_simp;exact hK _ _ ⟨_,rfl,⟨g0,xn,rfl,by omega,j,B0⟩,(fM hr (Ext.refl _))⟩
   refine sCr [(3,some 26)] rfl (fun wi kk hx hr hkk=> ?_) ?_
   ·intro v3 h3 K hK;obtain⟨g3,x3,rfl,aa,n,B3⟩:=h3;obtain⟨y,hy,t⟩:=aN6 (x3:Int) (by omega) (by omega);have c:=(B3.cell x3).trans hy;go_simp;exact hK _ _ ⟨_,rfl,⟨y,rfl,t⟩,(fM hr (Ext.refl _))⟩
   refine sSr0 [] ?_;refine sCr [(5,some 28)] rfl (fun wi kk hx hr hkk=> ?_) ?_
   ·intro v5 h5 K hK;obtain rfl:=h5;go_wp2_with fail;refine(cI R kk (12) _ hr (by omega)).mono ?_;rintro e w5 ⟨x,rfl,xa,xb,r5,x5⟩;go_simp;exact hK _ _ ⟨I x,rfl,⟨x,rfl,xa,by have hp:(0:Int)<12:=(by omega);omega⟩,⟨x5,r5⟩⟩
   refine sCr [(6,some 29)] rfl (fun wi kk hx hr hkk=> ?_) ?_
   ·intro v6 h6 K hK;obtain⟨x6,rfl,u,ab⟩:=h6;have hw:IntKind.i64.wrap (1+x6)=1+x6:=aRj _ (by omega);go_simp;exact hK _ _ ⟨_,rfl,⟨_,rfl,by omega,by omega⟩,(fM hr (Ext.refl _))⟩
   refine sCr [(7,some 30)] rfl (fun wi kk hx hr hkk=> ?_) ?_
   ·intro v7 h7 K hK;obtain⟨x7,rfl,z,ad⟩:=h7;go_wp2_with fail;refine Z (jK x7 _ (by omega) (by omega)) fun w5 x5=>?_
    go_simp;exact hK _ _ ⟨_,rfl,⟨_,rfl,by rw[aE9];exact cM _ (by omega)⟩,(fM hr x5)⟩
   refine sCr [(4,some 27),(8,some 31)] rfl (fun wi kk hx hr hkk=> ?_) StepsLR.nil
   ·intro v4 h4 v8 h8 K hK;obtain⟨s4,rfl,z4⟩:=h4;obtain⟨s8,rfl,z8⟩:=h8;have hz: ¬9223372036854775807<s4.size+s8.size:=by omega
    go_simp;exact hK _ _ ⟨_,rfl,⟨_,rfl,by simp only[ByteArray.size_append];omega⟩,(fM hr (Ext.refl _))⟩
  case fin=>
   intro wi hx hr v0 h0 v1 h1 v2 h2 v3 h3 v4 h4 v5 h5 v6 h6 v7 h7 v8 h8 v9 h9;obtain⟨g0,rfl,j,B0⟩:=h0;obtain rfl:=h1;obtain⟨x2,rfl,l,m⟩:=h2;obtain⟨g3,x3,rfl,aa,n,B3⟩:=h3;obtain⟨s4,rfl,z4⟩:=h4;obtain rfl:=h5;obtain⟨x6,rfl,u,ab⟩:=h6;obtain⟨x7,rfl,z,ad⟩:=h7;obtain⟨s8,rfl,z8⟩:=h8;obtain⟨s9,rfl,z9⟩:=h9;refine wpAny_ready (rs:= [10]) (by kernel_rfl) (by simp) ?_;refine AllReady.cons rfl (fun K hK=> ?_) AllReady.nil;go_simp;refine hK _ _ ?_;clear hK K;refine wpAny_done (by kernel_rfl) ?_ _;try go_frame
   go_wp2;go_ret;exact⟨s9,rfl,by omega,hr.mono (by omega),X1.out.trans hx.of_drew⟩
 have t0:(c==0)=false:=by simp;omega
 have t1:(c==1)=false:=by simp;omega
 have t2:(c==2)=false:=by simp;omega
 have k_:=B1.out.ten;go_wp2_with fail;refine(nM R (k+1) h p f q c2 _ r1 (by omega) hs ⟨X1.out.sl (b0:=0) hi.cells hp,X1.out.sl (b0:=0) hi.vs hq⟩ hp hq).mono ?_;rintro e w2 ⟨da,db,dc,rfl,r2,x2⟩;clear k_;go_wp2_with fail;refine Z (aDp da db dc _) fun w3 x3=>?_
 have hl:=aCz da db dc;obtain⟨s,hs,ae⟩: ∃s:ByteArray,str (bD da db dc)= .string s∧s.size=(bD da db dc).length:=⟨_,rfl,aE9 _⟩
 rw[hs];go_wp2;go_ret;exact⟨s,rfl,by omega,(r2.ext x3).mono (by omega),X1.out.trans (x2.trans (x3.r R))⟩
def zE (w:World)(e:Ending)(w':World):Prop:=
 ∃(h:aM) (p:OA) (cap:Nat) (q:OA) (c2:Nat) (b:ByteArray),e= .returned (.tuple #[bG h p h.cells.length cap q h.vs.length c2,.string b])∧h.cells.length≤13∧h.vs.length≤13∧b.size≤80∧IsHouse w' h p h.cells.length cap q h.vs.length c2∧Ext w w'
theorem aA5 (v:Value)(w:World)(hc:Code w v):U 4 #[v] w (zE w):=by
 go_enter func4,ntmps4;go_wp2_with fail;refine(aEa v _ (hc.ext xE)).mono ?_;rintro e w1 ⟨R,rfl,hR,r1,x1⟩;have al:w.heap.size<R:=by have:=hR;simp at this;omega
 have hR:=r1.lt;have M1:=(((Mem.start w).c0 aK zT).adv x1)
 have t:=M1.hi 0;clear x1;go_wp2_with fail;refine(aC6 R 0 12 _ r1 (by omega) (by omega) (by omega)).mono ?_;rintro e w2 ⟨h,p,a,q,c2,rfl,r,s,ho,hv,r2,x2⟩;have M2:=(show MemR R w1 w2 [aU1 w1 p h.cells a,aU2 w1 q h.vs c2]from(MemR.start R w1 hR).own2 x2 ho hv (by decide))
 have z2:=x2.sz;clear ho hv x2;go_upto_region 3 with fail;have r3:Rand (w2.alloc (.cells #[h.aA,h.aB,.slice p h.cells a,h.free,h.step,h.aD,h.aF,h.aC,h.aG,.slice q h.vs c2] aK)) R 20000:=by first|(exact xN)|exact(r2.alloc _).mono (by omega)
 have M3:=(M2.c0 aK (aU3 h p a q c2))
 generalize m:(w2.alloc (.cells #[h.aA,h.aB,.slice p h.cells a,h.free,h.step,h.aD,h.aF,h.aC,h.aG,.slice q h.vs c2] aK))=w3;rw[m]at M3 r3;clear m r2 r1 M2;have u:=M3.hi 0;have ak:R<w2:=by omega
 have X3:=xQ (ExtR.new M1.ext M3.ext (by omega));have B0:=xQ (M3.bk 0);have BH:=xQ (M3.ext.blk (M1.bk 0) (by omega));have g:=xQ fun(w':World) (kk:Nat) (hkk:kk≤1000000) (hx:ExtR R w3 w') (hr:Rand w' R kk)=>aEb R kk h p a q c2 w' hr hkk (by omega) (oK (i:=1) (j:=2) (M3.pickd hx) rfl rfl) (sX (i:=1) M3 rfl) (sX (i:=2) M3 rfl)
 unfold aFp at g;refine mM (gl [gEq (.agg #[h.aA,h.aB,.slice p h.cells a,h.free,h.step,h.aD,h.aF,h.aC,h.aG,.slice q h.vs c2]),gEq (.pointer (some ⟨R,0,none⟩)),gEq (.agg #[h.aA,h.aB,.slice p h.cells a,h.free,h.step,h.aD,h.aF,h.aC,h.aG,.slice q h.vs c2]),(fun v _=> ∃b:ByteArray,v= .string b∧b.size≤80)]) R (20000) 100 4 (by kernel_rfl) rfl (by kernel_rfl) (by kernel_rfl) (by kernel_rfl) r3 (tJ (bK (dZ _) (bK (dZ _) (bK (dZ _) (bK (fun _ _ _ h _=>h) (wR)))))) rfl (k:=6) (by kernel_rfl) (by decide) (ls:= [(0,some 10),(1,some 11),(2,some 12),(3,some 13)]) (by kernel_rfl) (ir:= [0,1,2,3]) (by kernel_rfl) ?steps (tl:=#[true,true,true,true,false,false]) (by kernel_rfl) ?fin
 case steps=>
  refine sCr [] rfl (fun wi kk hx hr hkk=> ?_) ?_
  ·intro K hK;have c:ExtR R w3 wi:=hx.of_drew;have n:=(c.blk B0 (by omega)).ten;go_simp;exact hK _ _ ⟨.agg #[h.aA,h.aB,.slice p h.cells a,h.free,h.step,h.aD,h.aF,h.aC,h.aG,.slice q h.vs c2],rfl,rfl,(fM hr (Ext.refl _))⟩
  refine sSr0 [] ?_;refine sCr [] rfl (fun wi kk hx hr hkk=> ?_) ?_
  ·intro K hK;have c:ExtR R w3 wi:=hx.of_drew;have n:=(c.blk B0 (by omega)).ten;go_simp;exact hK _ _ ⟨.agg #[h.aA,h.aB,.slice p h.cells a,h.free,h.step,h.aD,h.aF,h.aC,h.aG,.slice q h.vs c2],rfl,rfl,(fM hr (Ext.refl _))⟩
  refine sCr [(1,some 11),(2,some 12)] rfl (fun wi kk hx hr hkk=> ?_) StepsLR.nil
  ·intro v1 h1 v2 h2 K hK;subst h1 h2;go_wp2_with fail;refine(g _ kk (by omega) hx.of_drew hr).mono ?_;rintro e w5 ⟨b,rfl,hl,r5,x5⟩;go_simp;exact hK _ _ ⟨.string b,rfl,⟨b,rfl,hl⟩,⟨x5,r5⟩⟩
 case fin=>
  intro wi hx hr v0 h0 v1 h1 v2 h2 v3 h3;subst h0 h1 h2;obtain⟨b3,rfl,o⟩:=h3;have c:ExtR R w3 wi:=hx.of_drew;have z3:(w3:Nat)≤wi:=c.sz;have Xi:=xQ (ExtR.new X3 c (by omega));have d:=c.blk BH (by omega);have oi:=aIm (M3.ow 1) c (by omega);have vi:=aIm (M3.ow 2) c (by omega);clear B0 BH g hx c X3 r3 hr M3 M1;have lH:(w:Nat)<wi:=d.lt;obtain⟨z0,z,z1,aa,z2,ab,z3,ad,z4,ae,z5,af,z6,ag,z7,ah,z8,ai,z9,aj⟩:=d.tenf;refine wpAny_ready (rs:= [4]) (by kernel_rfl) (by simp) ?_;refine AllReady.cons rfl (fun K hK=> ?_) AllReady.nil;go_simp;refine hK _ _ ?_;clear hK K z0 z z1 aa z2 ab z3 ad z4 ae z5 af z6 ag z7 ah z8 ai z9 aj;have BX:=d;generalize l:World.setCell _ _ _=w9;have f:ExtR w wi w9:=by rw[←l];exact((((((((((ExtR.refl w wi).setCell (p:=⟨w,0,none⟩) (.inl rfl) (I h.aA)).setCell (p:=⟨w,1,none⟩) (.inl rfl) (I h.aB)).setCell (p:=⟨w,2,none⟩) (.inl rfl) (.slice p h.cells a)).setCell (p:=⟨w,3,none⟩) (.inl rfl) (I h.free)).setCell (p:=⟨w,4,none⟩) (.inl rfl) (I h.step)).setCell (p:=⟨w,5,none⟩) (.inl rfl) (I h.aD)).setCell (p:=⟨w,6,none⟩) (.inl rfl) (I h.aF)).setCell (p:=⟨w,7,none⟩) (.inl rfl) (I h.aC)).setCell (p:=⟨w,8,none⟩) (.inl rfl) (I h.aG)).setCell (p:=⟨w,9,none⟩) (.inl rfl) (.slice q h.vs c2)
  have YX:=(((((((((BX.set 0 (I h.aA)).set 1 (I h.aB)).set 2 (.slice p h.cells a)).set 3 (I h.free)).set 4 (I h.step)).set 5 (I h.aD)).set 6 (I h.aF)).set 7 (I h.aC)).set 8 (I h.aG)).set 9 (.slice q h.vs c2);simp only[aRx,aRu,aRt]at YX;rw[l]at YX;clear l;have x:=aIm oi f (by omega);have y:=aIm vi f (by omega);refine wpAny_ready (rs:= [5]) (by kernel_rfl) (by simp) ?_;refine AllReady.cons rfl (fun K hK=> ?_) AllReady.nil;go_simp;refine hK _ _ ?_;clear hK K;have X9:Ext w w9:=ExtR.new Xi f (by omega);clear f Xi d oi vi;refine wpAny_done (by kernel_rfl) ?_ _;try go_frame
  go_wp2;have y_:=YX.ten;exact bodyPost_ret (v:= .tuple #[.agg #[h.aA,h.aB,.slice p h.cells a,h.free,h.step,h.aD,h.aF,h.aC,h.aG,.slice q h.vs c2],.string b3]) (by simp[results,results4,go_sem, *]) rfl ⟨h,p,a,q,c2,b3,rfl,r,s,o,⟨Sl.own x,Sl.own y⟩,X9⟩
theorem Mem.own2blk {w0 w w':World}{L:List Item}{e1 e2 t:TypeId}{s1 s2 n1 n2 c1 c2 g:Nat}{q1 q2:OA}{d a:List Value}{cs:Array Value}(h:Mem w0 w L)(hx:Ext w w')(hb:Blk w' g t cs)(hg:w.heap.size≤g)(h1:w'.ownsRow w e1 s1 (.slice q1 n1 c1) n1 d)(h2:w'.ownsRow w e2 s2 (.slice q2 n2 c2) n2 a)(ht:e1≠e2)(t1:e1≠t)(t2:e2≠t):
  Mem w0 w' (aJ w0 e1 s1 q1 n1 c1 d::aJ w0 e2 s2 q2 n2 c2 a::aI w0 g t cs::L):=by
 have b: ∀ {e:TypeId} {s n c:Nat} {q:OA} {xs:List Value},w'.ownsRow w e s (.slice q n c) n xs→e≠t→(Value.slice q n c).ownBlock≠Option.some g:=by
  intro e s n c q xs ho f he;rcases ho.2 with⟨b1,_⟩|⟨g1,cap1,cur1,b1,_,b3,_⟩
  ·rw[b1]at he;cases he
  rw[b1]at he;injection he with he;have x1:g1=g:=he;subst x1;unfold Blk at hb;rw[hb]at b3;injection b3 with b3;injection b3 with _ b3;exact f b3.symm
 have H:=h.own2 hx h1 h2 (aRg _) ht;have p1:=List.pairwise_cons.1 H.apart;have p2:=List.pairwise_cons.1 p1.2;have HB:=h.blkOf hx hb hg
 have H2:Mem w0 w' (aJ w0 e2 s2 q2 n2 c2 a::aI w0 g t cs::L):=HB.cons (eH _ _ _ _ _ _ _) (dL h2 h.ext.sz) (fun g' hg' j hj e=>by
  rcases aRv.1 hj with rfl|hj
  ·obtain rfl:g=g':=e;exact b h2 t2 hg'
  ·exact p2.1 j hj g' hg' e)
 exact H2.cons (eH _ _ _ _ _ _ _) (dL h1 h.ext.sz) (fun g' hg' j hj e=>by
  rcases aRv.1 hj with rfl|hj
  ·exact p1.1 _ (by simp) g' hg' e
  ·rcases aRv.1 hj with rfl|hj
   ·obtain rfl:g=g':=e;exact b h1 t1 hg'
   ·exact p1.1 j (by simp[hj]) g' hg' e)
def hZ:aM:=⟨0,0,[],0,0,0,0,0,0,[]⟩
def doR (h:aM)(k a b:Int):aM×Int×Bool:=
 if aS h=true then(match cC h k a b with
  |none=>(h,-1,false)
  |some (h',n)=>(h',n,true))else(hZ,-1,false)
theorem aPt (h:aM)(k a b:Int):(doR h k a b).1.cells.length≤1000∧(doR h k a b).1.vs.length≤1000:=by
 unfold doR;by_cases hok:aS h=true
 ·rw[if_pos hok];cases hd:cC h k a b with
  |none=>have:=eL hok;dsimp only;omega
  |some r=>obtain⟨h',n⟩:=r;have:=eL (mF hok hd).1;dsimp only;omega
 rw[if_neg hok];simp[hZ]
def aLm (B:Nat)(r:aM×Int×Bool)(w':World)(e:Ending)(w'':World):Prop:=
 ∃pa ca qa da,e= .returned (.tuple #[bG r.1 pa r.1.cells.length ca qa r.1.vs.length da,r.2.1,.bool r.2.2])∧w''.ownsRow B TI 1 (.slice pa r.1.cells.length ca) r.1.cells.length (ivs r.1.cells)∧w''.ownsRow B TV 4 (.slice qa r.1.vs.length da) r.1.vs.length (r.1.vs.flatMap aE)∧Ext w' w''
theorem wN {h:aM}{k a b:Int}{w w':World}{e:Ending}{B:Nat}(hB:B≤w.heap.size)(c:aS h=true)(hr:aJb h (cC h k a b) w e w'):aLm B (doR h k a b) w e w':=by
 unfold doR;rw[if_pos c];unfold aJb at hr;cases hd:cC h k a b with
 |none=>rw[hd]at hr;obtain⟨pa,ca,qa,da,rfl,o1,o2,hx⟩:=hr;exact⟨pa,ca,qa,da,rfl,dL o1 hB,dL o2 hB,hx⟩
 |some r=>obtain⟨h',n⟩:=r;rw[hd]at hr;obtain⟨pa,ca,qa,da,rfl,o1,o2,hx⟩:=hr;exact⟨pa,ca,qa,da,rfl,dL o1 hB,dL o2 hB,hx⟩
theorem aJ6 {h:aM}{k a b:Int}{w w':World}{e:Ending}{B:Nat}(c: ¬aS h=true)(hr:e= .returned (.tuple #[.agg #[(),(),((),()),(),(),(),(),(),(),((),())],(-1:Int),.bool false])∧Ext w w'):aLm B (doR h k a b) w e w':=by unfold doR;rw[if_neg c];obtain⟨rfl,hx⟩:=hr;exact⟨none,0,none,0,rfl,aRw _ _ _ _,aRw _ _ _ _,hx⟩
abbrev TB:TypeId:=4
def bcs (bs:List Bool):List Value:=bs.map .bool
theorem aPw (bs:List Bool):(bcs bs).length=bs.length:=by simp[bcs]
theorem aFm (bs:List Bool)(b:Bool):bcs (bs++ [b])=bcs bs++ [.bool b]:=by simp[bcs]
theorem elB:ElT prog 81 TB 1:=
 ⟨underlying81,by
  obtain⟨i,hi,h0,h1,h2⟩:=info_parts (show(prog.info? TB).map (fun i=>(i.zero,i.size,i.bytes))=some (some (.bool false),1,1) by kernel_rfl)
  exact⟨i,_,hi,h0,h1,by omega,rfl⟩,by omega⟩
def xX (h:aM)(d:Dd3):aM:=(doR h d.1 d.2.1 d.2.2).1
def sQ (h:aM)(ds:List Dd3):aM:=ds.foldl xX h
def fV:aM→List Dd3→List Bool
 |_,[]=> []
 |h,d::ds=>(doR h d.1 d.2.1 d.2.2).2.2::fV (xX h d) ds
theorem aAl (h:aM)(l:List Dd3)(d:Dd3):sQ h (l++ [d])=(doR (sQ h l) d.1 d.2.1 d.2.2).1:=by simp[sQ,xX]
theorem yT: ∀(l:List Dd3) (h:aM) (d:Dd3),fV h (l++ [d])=fV h l++ [(doR (sQ h l) d.1 d.2.1 d.2.2).2.2]:=by
 intro l;induction l with
 |nil=>intro h d;rfl
 |cons x l ih=>intro h d;show _::fV (xX h x) (l++ [d])=_;rw[ih];rfl
theorem uU: ∀(l:List Dd3) (h:aM),(fV h l).length=l.length:=by
 intro l;induction l with
 |nil=>intro h;rfl
 |cons x l ih=>intro h;show(fV (xX h x) l).length+1=_;rw[ih];rfl
theorem aN4 {h:aM}(a:aS h=true)(d:Dd3):aS (xX h d)=true:=by
 unfold xX doR;rw[if_pos a];cases hd:cC h d.1 d.2.1 d.2.2 with
 |none=>exact a
 |some r=>obtain⟨h',n⟩:=r;exact(mF a hd).1
theorem wM: ∀(l:List Dd3) {h:aM},aS h=true→aS (sQ h l)=true:=by
 intro l;induction l with
 |nil=>intro h a;exact a
 |cons x l ih=>intro h a;exact ih (aN4 a x)
def sP (h:aM)(ds:List Dd3):aM×List Bool:=if aS h=true then(sQ h ds,fV h ds)else(hZ,[])
def oU (B:Nat)(r:aM×List Bool)(w':World)(e:Ending)(w'':World):Prop:=
 ∃pa ca qa da ps cs,e= .returned (.tuple #[bG r.1 pa r.1.cells.length ca qa r.1.vs.length da,.slice ps r.2.length cs])∧w''.ownsRow B TI 1 (.slice pa r.1.cells.length ca) r.1.cells.length (ivs r.1.cells)∧w''.ownsRow B TV 4 (.slice qa r.1.vs.length da) r.1.vs.length (r.1.vs.flatMap aE)∧w''.ownsRow B TB 1 (.slice ps r.2.length cs) r.2.length (bcs r.2)∧Ext w' w''
theorem aMt (h:aM)(ds:List Dd3):(sP h ds).1.cells.length≤1000∧(sP h ds).1.vs.length≤1000∧(sP h ds).2.length≤ds.length:=by
 unfold sP;by_cases hok:aS h=true
 ·rw[if_pos hok];have:=eL (wM ds hok);dsimp only;rw[uU];omega
 rw[if_neg hok];simp[hZ]
end
end Go.Proofs.YtomgkjinhnkpnaaGreatDoor
