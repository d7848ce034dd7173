/-
  Texts of this proof, packed (@packed).
-/
import Derived.Test.YtpelpnfhbepokaaGreatDoorU6
namespace Go.Proofs.YtpelpnfhbepokaaGreatDoor
open Go.RowKit
set_option linter.unusedVariables false
set_option maxHeartbeats 8000000
set_option maxRecDepth 100000
def eR (p:List UInt8):Nat→Int
 |0=> -1
 |k+1=>if p=aV k then k else eR p k
theorem sE (p:List UInt8):eR p 5=(hU p).getD (-1):=by
 cases h:hU p with
 |none=>obtain⟨n1,n2,n3,n4,n5⟩:=nS h;simp only[beq_eq_false_iff_ne,ne_eq]at n1 n2 n3 n4 n5;simp[eR,aV,n1,n2,n3,n4,n5]
 |some k=>rcases eQ h with⟨rfl,rfl⟩|⟨rfl,rfl⟩|⟨rfl,rfl⟩|⟨rfl,rfl⟩|⟨rfl,rfl⟩<;>decide
theorem jA {p:List UInt8}{k:Nat}(h:p=aV k):eR p (k+1)=k:=by simp[eR,h]
theorem kI {p:List UInt8}{k:Nat}(h:p≠aV k):eR p (k+1)=eR p k:=by simp[eR,h]
theorem fI {W0 wr:World}{B:Nat}(hg:W0.grownBy wr (some B))(o:Nat)(v:Value):W0.grownBy (wr.setCell ⟨B,o,none⟩ v) (some B):=
 ⟨hg.os,hg.tape,hg.output,by simpa using hg.size,fun k hk hne=>by rw[Below.heap_setCell _ _ _ _ (fun e=>hne (by simp[e]))];exact hg.block k hk hne⟩
theorem cW {W0 wr:World}{r:Option Nat}(hg:W0.grownBy wr r):W0.grownBy wr.drew r:=⟨hg.os,hg.tape,hg.output,hg.size,hg.block⟩
theorem dY {w W0 wr:World}{B:Nat}(h:Ext w W0)(hg:W0.grownBy wr (some B))(hB:w.heap.size≤B):Ext w wr:=h.grown hg (fun k hk=>by simp at hk;omega)
theorem h1' {w w1:World}{o o2:Obj}(h:Ext (w.alloc o) w1):Ext w (w1.alloc o2):=(((Ext.refl w).alloc o).trans h).alloc o2
theorem zJ (l:List UInt8)(w:World)(ps:List (List UInt8))(n:Nat)(p t:List UInt8)(hn:n=1)(aa:1≤n)(ab:n≤1099511627777)
  (o:ps[0]? =some p)
  (HS:Hid (∀w,Calls Tryz.prog 164 #[str l,.int .u8 32] w fun e w'=> ∃v,e= .returned v∧w'.ownsRow w.heap.size 9 1 v n (eX ps)∧Ext w w'))
  (hl:l.isEmpty=false) (ht:(t==l)=true)
  (HD:Hid (∀w,Calls Tryz.prog 120 #[cI (eR p 5) 0 0] w fun e w'=>e= .returned (str t)∧Ext w w')):
  Calls Tryz.prog 166 #[str l] w (iE (some (eR p 5,0,0)) w):=by
 all_goals
  go_enter Tryz.func166,Tryz.ntmps166;go_wp2_with fail;refine(HS _).mono ?_;rintro e w1 ⟨v,rfl,a,h1⟩;obtain⟨g,s,rfl⟩:=Joins.ownsRow_form a (by omega);have e0:=aU a 0 (by omega) _ o;have hg:=(a.lt g rfl).2;have d:w.heap.size<w1.heap.size:=Nat.lt_of_lt_of_le (by simp) h1.sz;have z:w.heap.size<g:=Nat.lt_of_lt_of_le (by simp) (a.lt g rfl).1;obtain⟨h,m⟩:=h1.cells;clear a;go_wp2;go_loopw [6] (fun i wr=> ∃k:Nat,k≤5∧i= .int .i64 k∧wr.heap[w1.heap.size]? =some (.cells #[(eR p k:Int),(),()] 44 (0,0))∧(w1.alloc (.cells #[(-1:Int),(),()] 44)).grownBy wr (some w1.heap.size)) (fun i _=>5-(intOf i).toNat)
  case atStart=>exact⟨0,by omega,rfl,by rw[heap_alloc_new];rfl,World.grownBy.refl _ _⟩
  case round=>
   obtain⟨k,hk,rfl,hB,b⟩:=hrel;have b0:wr.cell? ⟨w1.heap.size,0,none⟩=some (.int .i64 (eR p k)):=Joins.cell_of_block hB 0;have b1:wr.cell? ⟨w1.heap.size,1,none⟩=some (.int .i64 0):=Joins.cell_of_block hB 1;have b2:wr.cell? ⟨w1.heap.size,2,none⟩=some (.int .i64 0):=Joins.cell_of_block hB 2;have u0:=Joins.unfrozen_of_block hB 0;have u1:=Joins.unfrozen_of_block hB 1;have u2:=Joins.unfrozen_of_block hB 2;have HG:=xQ b;have f:=xQ hB;have q:=b.size;simp only[World.size_alloc]at q;have g0:wr.cell? ⟨g,0,none⟩=some (str p):=b.cell (by rw[World.cell?_alloc_past _ _ _ (by simpa using hg)];exact e0) (by simp;omega);have r0: ∀j,j<3→wr.cell? ⟨w.heap.size,j,none⟩=some (.int .i64 0):=fun j hj=>b.cell (by rw[World.cell?_alloc_past _ _ _ (by simpa using d),h _ _ (by simp)];rcases(show j=0∨j=1∨j=2 by omega)with rfl|rfl|rfl<;>simp) (by simp;omega)
   have r1: ∀j,wr.frozen? ⟨w.heap.size,j,none⟩=false:=fun j=>by rw[World.frozen?_of_block (w:=w1.alloc (.cells #[(-1:Int),(),()] 44)) (b.block _ (by simp;omega) (by simp;omega)),World.frozen?_of_block (Below.heap_alloc _ _ _ (by simpa using d)),m _ _ (by simp)];simp
   have ag:=r0 0 (by omega);have ah:=r0 1 (by omega);have ai:=r0 2 (by omega);have aj:=r1 0;have ak:=r1 1;have al:=r1 2;clear b hB r0 r1 h m e0;by_cases hlt:k<5
   ·by_cases hpk:p=aV k
    ·have hb:(p==aV (k:Int))=true:=by simp[hpk]
     have c:=xQ hpk;clear hpk;go_wp2;go_region_held3 (fun w'=>w'.cell? ⟨g,0,none⟩=some (str p)) (go_keep) ((go_at_call 170;refine(cJ k _ (by omega)).mono ?_;rintro e w2 ⟨rfl,rfl⟩));all_goals go_wp2
     all_goals go_roundw
     all_goals first
      |(case rel=>exact⟨k+1,by omega,by go_num,by rw[jA c.out];exact Joins.block_setCell f.out _,fI (cW HG.out) _ _⟩)
      |(case measure=>simp[intOf];omega)
    have hb:(p==aV (k:Int))=false:=by simp[hpk]
    have c:=xQ hpk;clear hpk;go_wp2;go_region_held3 (fun w'=>w'.cell? ⟨g,0,none⟩=some (str p)) (go_keep) ((go_at_call 170;refine(cJ k _ (by omega)).mono ?_;rintro e w2 ⟨rfl,rfl⟩));all_goals go_wp2
    all_goals go_roundw
    all_goals first
     |(case rel=>exact⟨k+1,by omega,by go_num,by rw[kI c.out];exact f.out,cW HG.out⟩)
     |(case measure=>simp[intOf];omega)
   obtain rfl:k=5:=by omega
   have u:Ext w wr:=dY (h1' h1) HG (by omega);go_wp2_with fail;refine(HD _).mono ?_;rintro e w2 ⟨rfl,h2⟩;obtain⟨x,y⟩:=h2.cells;have r:w1.heap.size<w2.heap.size:=Nat.lt_of_lt_of_le (by first|omega|(simp;omega)) h2.sz;have ad:w.heap.size<w2.heap.size:=Nat.lt_trans d r;have ae:w1.heap.size<wr.heap.size:=by omega
   have af:w.heap.size<wr.heap.size:=by omega
   go_wp2;exact bodyPost_ret (v:=rdV (some (_,0,0))) (by simp[results,Tryz.results166,go_sem, *];rfl) rfl ⟨rfl,xE⟩
theorem zK (l:List UInt8)(w:World)(ps:List (List UInt8))(n:Nat)(p t:List UInt8)(hn:n=1)(aa:1≤n)(ab:n≤1099511627777)
  (o:ps[0]? =some p)
  (HS:Hid (∀w,Calls Tryz.prog 164 #[str l,.int .u8 32] w fun e w'=> ∃v,e= .returned v∧w'.ownsRow w.heap.size 9 1 v n (eX ps)∧Ext w w'))
  (hl:l.isEmpty=false) (ht:(t==l)=false)
  (HD:Hid (∀w,Calls Tryz.prog 120 #[cI (eR p 5) 0 0] w fun e w'=>e= .returned (str t)∧Ext w w')):
  Calls Tryz.prog 166 #[str l] w (iE (none) w):=by
 all_goals
  go_enter Tryz.func166,Tryz.ntmps166;go_wp2_with fail;refine(HS _).mono ?_;rintro e w1 ⟨v,rfl,a,h1⟩;obtain⟨g,s,rfl⟩:=Joins.ownsRow_form a (by omega);have e0:=aU a 0 (by omega) _ o;have hg:=(a.lt g rfl).2;have d:w.heap.size<w1.heap.size:=Nat.lt_of_lt_of_le (by simp) h1.sz;have z:w.heap.size<g:=Nat.lt_of_lt_of_le (by simp) (a.lt g rfl).1;obtain⟨h,m⟩:=h1.cells;clear a;go_wp2;go_loopw [6] (fun i wr=> ∃k:Nat,k≤5∧i= .int .i64 k∧wr.heap[w1.heap.size]? =some (.cells #[(eR p k:Int),(),()] 44 (0,0))∧(w1.alloc (.cells #[(-1:Int),(),()] 44)).grownBy wr (some w1.heap.size)) (fun i _=>5-(intOf i).toNat)
  case atStart=>exact⟨0,by omega,rfl,by rw[heap_alloc_new];rfl,World.grownBy.refl _ _⟩
  case round=>
   obtain⟨k,hk,rfl,hB,b⟩:=hrel;have b0:wr.cell? ⟨w1.heap.size,0,none⟩=some (.int .i64 (eR p k)):=Joins.cell_of_block hB 0;have b1:wr.cell? ⟨w1.heap.size,1,none⟩=some (.int .i64 0):=Joins.cell_of_block hB 1;have b2:wr.cell? ⟨w1.heap.size,2,none⟩=some (.int .i64 0):=Joins.cell_of_block hB 2;have u0:=Joins.unfrozen_of_block hB 0;have u1:=Joins.unfrozen_of_block hB 1;have u2:=Joins.unfrozen_of_block hB 2;have HG:=xQ b;have f:=xQ hB;have q:=b.size;simp only[World.size_alloc]at q;have g0:wr.cell? ⟨g,0,none⟩=some (str p):=b.cell (by rw[World.cell?_alloc_past _ _ _ (by simpa using hg)];exact e0) (by simp;omega);have r0: ∀j,j<3→wr.cell? ⟨w.heap.size,j,none⟩=some (.int .i64 0):=fun j hj=>b.cell (by rw[World.cell?_alloc_past _ _ _ (by simpa using d),h _ _ (by simp)];rcases(show j=0∨j=1∨j=2 by omega)with rfl|rfl|rfl<;>simp) (by simp;omega)
   have r1: ∀j,wr.frozen? ⟨w.heap.size,j,none⟩=false:=fun j=>by rw[World.frozen?_of_block (w:=w1.alloc (.cells #[(-1:Int),(),()] 44)) (b.block _ (by simp;omega) (by simp;omega)),World.frozen?_of_block (Below.heap_alloc _ _ _ (by simpa using d)),m _ _ (by simp)];simp
   have ag:=r0 0 (by omega);have ah:=r0 1 (by omega);have ai:=r0 2 (by omega);have aj:=r1 0;have ak:=r1 1;have al:=r1 2;clear b hB r0 r1 h m e0;by_cases hlt:k<5
   ·by_cases hpk:p=aV k
    ·have hb:(p==aV (k:Int))=true:=by simp[hpk]
     have c:=xQ hpk;clear hpk;go_wp2;go_region_held3 (fun w'=>w'.cell? ⟨g,0,none⟩=some (str p)) (go_keep) ((go_at_call 170;refine(cJ k _ (by omega)).mono ?_;rintro e w2 ⟨rfl,rfl⟩));all_goals go_wp2
     all_goals go_roundw
     all_goals first
      |(case rel=>exact⟨k+1,by omega,by go_num,by rw[jA c.out];exact Joins.block_setCell f.out _,fI (cW HG.out) _ _⟩)
      |(case measure=>simp[intOf];omega)
    have hb:(p==aV (k:Int))=false:=by simp[hpk]
    have c:=xQ hpk;clear hpk;go_wp2;go_region_held3 (fun w'=>w'.cell? ⟨g,0,none⟩=some (str p)) (go_keep) ((go_at_call 170;refine(cJ k _ (by omega)).mono ?_;rintro e w2 ⟨rfl,rfl⟩));all_goals go_wp2
    all_goals go_roundw
    all_goals first
     |(case rel=>exact⟨k+1,by omega,by go_num,by rw[kI c.out];exact f.out,cW HG.out⟩)
     |(case measure=>simp[intOf];omega)
   obtain rfl:k=5:=by omega
   have u:Ext w wr:=dY (h1' h1) HG (by omega);go_wp2_with fail;refine(HD _).mono ?_;rintro e w2 ⟨rfl,h2⟩;obtain⟨x,y⟩:=h2.cells;have r:w1.heap.size<w2.heap.size:=Nat.lt_of_lt_of_le (by first|omega|(simp;omega)) h2.sz;have ad:w.heap.size<w2.heap.size:=Nat.lt_trans d r;have ae:w1.heap.size<wr.heap.size:=by omega
   have af:w.heap.size<wr.heap.size:=by omega
   go_wp2;exact bodyPost_ret (v:=rdV none) (by simp[results,Tryz.results166,go_sem, *];rfl) rfl ⟨rfl,xE⟩
theorem wH (l:List UInt8)(w:World)(ps:List (List UInt8))(n:Nat)(p t:List UInt8)(hn:n=1)(x:1≤n)(y:n≤1099511627777)
  (o:ps[0]? =some p)
  (HS:Hid (∀w,Calls Tryz.prog 164 #[str l,.int .u8 32] w fun e w'=> ∃v,e= .returned v∧w'.ownsRow w.heap.size 9 1 v n (eX ps)∧Ext w w'))
  (hl:l.isEmpty=true)
  (HD:Hid (∀w,Calls Tryz.prog 120 #[cI (eR p 5) 0 0] w fun e w'=>e= .returned (str t)∧Ext w w')):
  Calls Tryz.prog 166 #[str l] w (iE (none) w):=by
 all_goals
  go_enter Tryz.func166,Tryz.ntmps166;go_wp2_with fail;refine(HS _).mono ?_;rintro e w1 ⟨v,rfl,a,h1⟩;obtain⟨g,r,rfl⟩:=Joins.ownsRow_form a (by omega);have e0:=aU a 0 (by omega) _ o;have hg:=(a.lt g rfl).2;have m:w.heap.size<w1.heap.size:=Nat.lt_of_lt_of_le (by simp) h1.sz;have u:w.heap.size<g:=Nat.lt_of_lt_of_le (by simp) (a.lt g rfl).1;obtain⟨f,h⟩:=h1.cells;clear a;go_wp2;go_loopw [6] (fun i wr=> ∃k:Nat,k≤5∧i= .int .i64 k∧wr.heap[w1.heap.size]? =some (.cells #[(eR p k:Int),(),()] 44 (0,0))∧(w1.alloc (.cells #[(-1:Int),(),()] 44)).grownBy wr (some w1.heap.size)) (fun i _=>5-(intOf i).toNat)
  case atStart=>exact⟨0,by omega,rfl,by rw[heap_alloc_new];rfl,World.grownBy.refl _ _⟩
  case round=>
   obtain⟨k,hk,rfl,hB,b⟩:=hrel;have b0:wr.cell? ⟨w1.heap.size,0,none⟩=some (.int .i64 (eR p k)):=Joins.cell_of_block hB 0;have b1:wr.cell? ⟨w1.heap.size,1,none⟩=some (.int .i64 0):=Joins.cell_of_block hB 1;have b2:wr.cell? ⟨w1.heap.size,2,none⟩=some (.int .i64 0):=Joins.cell_of_block hB 2;have u0:=Joins.unfrozen_of_block hB 0;have u1:=Joins.unfrozen_of_block hB 1;have u2:=Joins.unfrozen_of_block hB 2;have HG:=xQ b;have d:=xQ hB;have q:=b.size;simp only[World.size_alloc]at q;have g0:wr.cell? ⟨g,0,none⟩=some (str p):=b.cell (by rw[World.cell?_alloc_past _ _ _ (by simpa using hg)];exact e0) (by simp;omega);have r0: ∀j,j<3→wr.cell? ⟨w.heap.size,j,none⟩=some (.int .i64 0):=fun j hj=>b.cell (by rw[World.cell?_alloc_past _ _ _ (by simpa using m),f _ _ (by simp)];rcases(show j=0∨j=1∨j=2 by omega)with rfl|rfl|rfl<;>simp) (by simp;omega)
   have r1: ∀j,wr.frozen? ⟨w.heap.size,j,none⟩=false:=fun j=>by rw[World.frozen?_of_block (w:=w1.alloc (.cells #[(-1:Int),(),()] 44)) (b.block _ (by simp;omega) (by simp;omega)),World.frozen?_of_block (Below.heap_alloc _ _ _ (by simpa using m)),h _ _ (by simp)];simp
   have z:=r0 0 (by omega);have aa:=r0 1 (by omega);have ab:=r0 2 (by omega);have ad:=r1 0;have ae:=r1 1;have af:=r1 2;clear b hB r0 r1 f h e0;by_cases hlt:k<5
   ·by_cases hpk:p=aV k
    ·have hb:(p==aV (k:Int))=true:=by simp[hpk]
     have c:=xQ hpk;clear hpk;go_wp2;go_region_held3 (fun w'=>w'.cell? ⟨g,0,none⟩=some (str p)) (go_keep) ((go_at_call 170;refine(cJ k _ (by omega)).mono ?_;rintro e w2 ⟨rfl,rfl⟩));all_goals go_wp2
     all_goals go_roundw
     all_goals first
      |(case rel=>exact⟨k+1,by omega,by go_num,by rw[jA c.out];exact Joins.block_setCell d.out _,fI (cW HG.out) _ _⟩)
      |(case measure=>simp[intOf];omega)
    have hb:(p==aV (k:Int))=false:=by simp[hpk]
    have c:=xQ hpk;clear hpk;go_wp2;go_region_held3 (fun w'=>w'.cell? ⟨g,0,none⟩=some (str p)) (go_keep) ((go_at_call 170;refine(cJ k _ (by omega)).mono ?_;rintro e w2 ⟨rfl,rfl⟩));all_goals go_wp2
    all_goals go_roundw
    all_goals first
     |(case rel=>exact⟨k+1,by omega,by go_num,by rw[kI c.out];exact d.out,cW HG.out⟩)
     |(case measure=>simp[intOf];omega)
   obtain rfl:k=5:=by omega
   have s:Ext w wr:=dY (h1' h1) HG (by omega);go_wp2;exact bodyPost_ret (v:=rdV none) (by simp[results,Tryz.results166,go_sem, *];rfl) rfl ⟨rfl,xE⟩
theorem zH (l:List UInt8)(w:World)(ps:List (List UInt8))(n:Nat)(p q t:List UInt8)(a:Int)(hn:n=2)(ae:1≤n)(af:n≤1099511627777)
  (r:ps[0]? =some p) (s:ps[1]? =some q)
  (HS:Hid (∀w,Calls Tryz.prog 164 #[str l,.int .u8 32] w fun e w'=> ∃v,e= .returned v∧w'.ownsRow w.heap.size 9 1 v n (eX ps)∧Ext w w'))
  (HR:Hid (∀w,Calls Tryz.prog 165 #[str q] w fun e w'=>e= .returned (.int .i64 a)∧w=w'))
  (hl:l.isEmpty=false) (ht:(t==l)=true)
  (HD:Hid (∀w,Calls Tryz.prog 120 #[cI (eR p 5) a 0] w fun e w'=>e= .returned (str t)∧Ext w w')):
  Calls Tryz.prog 166 #[str l] w (iE (some (eR p 5,a,0)) w):=by
 all_goals
  go_enter Tryz.func166,Tryz.ntmps166;go_wp2_with fail;refine(HS _).mono ?_;rintro e w1 ⟨v,rfl,b,h1⟩;obtain⟨g,y,rfl⟩:=Joins.ownsRow_form b (by omega);have e0:=aU b 0 (by omega) _ r;have e1:=aU b 1 (by omega) _ s;have hg:=(b.lt g rfl).2;have f:w.heap.size<w1.heap.size:=Nat.lt_of_lt_of_le (by simp) h1.sz;have ad:w.heap.size<g:=Nat.lt_of_lt_of_le (by simp) (b.lt g rfl).1;obtain⟨m,o⟩:=h1.cells;clear b;go_wp2;go_loopw [6] (fun i wr=> ∃k:Nat,k≤5∧i= .int .i64 k∧wr.heap[w1.heap.size]? =some (.cells #[(eR p k:Int),(),()] 44 (0,0))∧(w1.alloc (.cells #[(-1:Int),(),()] 44)).grownBy wr (some w1.heap.size)) (fun i _=>5-(intOf i).toNat)
  case atStart=>exact⟨0,by omega,rfl,by rw[heap_alloc_new];rfl,World.grownBy.refl _ _⟩
  case round=>
   obtain⟨k,hk,rfl,hB,c⟩:=hrel;have b0:wr.cell? ⟨w1.heap.size,0,none⟩=some (.int .i64 (eR p k)):=Joins.cell_of_block hB 0;have b1:wr.cell? ⟨w1.heap.size,1,none⟩=some (.int .i64 0):=Joins.cell_of_block hB 1;have b2:wr.cell? ⟨w1.heap.size,2,none⟩=some (.int .i64 0):=Joins.cell_of_block hB 2;have u0:=Joins.unfrozen_of_block hB 0;have u1:=Joins.unfrozen_of_block hB 1;have u2:=Joins.unfrozen_of_block hB 2;have HG:=xQ c;have h:=xQ hB;have u:=c.size;simp only[World.size_alloc]at u;have g0:wr.cell? ⟨g,0,none⟩=some (str p):=c.cell (by rw[World.cell?_alloc_past _ _ _ (by simpa using hg)];exact e0) (by simp;omega);have g1:wr.cell? ⟨g,1,none⟩=some (str q):=c.cell (by rw[World.cell?_alloc_past _ _ _ (by simpa using hg)];exact e1) (by simp;omega);have r0: ∀j,j<3→wr.cell? ⟨w.heap.size,j,none⟩=some (.int .i64 0):=fun j hj=>c.cell (by rw[World.cell?_alloc_past _ _ _ (by simpa using f),m _ _ (by simp)];rcases(show j=0∨j=1∨j=2 by omega)with rfl|rfl|rfl<;>simp) (by simp;omega)
   have r1: ∀j,wr.frozen? ⟨w.heap.size,j,none⟩=false:=fun j=>by rw[World.frozen?_of_block (w:=w1.alloc (.cells #[(-1:Int),(),()] 44)) (c.block _ (by simp;omega) (by simp;omega)),World.frozen?_of_block (Below.heap_alloc _ _ _ (by simpa using f)),o _ _ (by simp)];simp
   have aj:=r0 0 (by omega);have ak:=r0 1 (by omega);have al:=r0 2 (by omega);have am:=r1 0;have an:=r1 1;have ao:=r1 2;clear c hB r0 r1 m o e0;by_cases hlt:k<5
   ·by_cases hpk:p=aV k
    ·have hb:(p==aV (k:Int))=true:=by simp[hpk]
     have d:=xQ hpk;clear hpk;go_wp2;go_region_held3 (fun w'=>w'.cell? ⟨g,0,none⟩=some (str p)) (go_keep) ((go_at_call 170;refine(cJ k _ (by omega)).mono ?_;rintro e w2 ⟨rfl,rfl⟩));all_goals go_wp2
     all_goals go_roundw
     all_goals first
      |(case rel=>exact⟨k+1,by omega,by go_num,by rw[jA d.out];exact Joins.block_setCell h.out _,fI (cW HG.out) _ _⟩)
      |(case measure=>simp[intOf];omega)
    have hb:(p==aV (k:Int))=false:=by simp[hpk]
    have d:=xQ hpk;clear hpk;go_wp2;go_region_held3 (fun w'=>w'.cell? ⟨g,0,none⟩=some (str p)) (go_keep) ((go_at_call 170;refine(cJ k _ (by omega)).mono ?_;rintro e w2 ⟨rfl,rfl⟩));all_goals go_wp2
    all_goals go_roundw
    all_goals first
     |(case rel=>exact⟨k+1,by omega,by go_num,by rw[kI d.out];exact h.out,cW HG.out⟩)
     |(case measure=>simp[intOf];omega)
   obtain rfl:k=5:=by omega
   have z:Ext w wr:=dY (h1' h1) HG (by omega);go_wp2_with fail;refine(HR _).mono ?_;rintro e w2 ⟨rfl,rfl⟩;go_wp2_with fail;refine(HD _).mono ?_;rintro e w2 ⟨rfl,h2⟩;obtain⟨aa,ab⟩:=h2.cells;have x:w1.heap.size<w2.heap.size:=Nat.lt_of_lt_of_le (by first|omega|(simp;omega)) h2.sz;have ag:w.heap.size<w2.heap.size:=Nat.lt_trans f x;have ah:w1.heap.size<wr.heap.size:=by omega
   have ai:w.heap.size<wr.heap.size:=by omega
   go_wp2;exact bodyPost_ret (v:=rdV (some (_,a,0))) (by simp[results,Tryz.results166,go_sem, *];rfl) rfl ⟨rfl,xE⟩
theorem zI (l:List UInt8)(w:World)(ps:List (List UInt8))(n:Nat)(p q t:List UInt8)(a:Int)(hn:n=2)(ae:1≤n)(af:n≤1099511627777)
  (r:ps[0]? =some p) (s:ps[1]? =some q)
  (HS:Hid (∀w,Calls Tryz.prog 164 #[str l,.int .u8 32] w fun e w'=> ∃v,e= .returned v∧w'.ownsRow w.heap.size 9 1 v n (eX ps)∧Ext w w'))
  (HR:Hid (∀w,Calls Tryz.prog 165 #[str q] w fun e w'=>e= .returned (.int .i64 a)∧w=w'))
  (hl:l.isEmpty=false) (ht:(t==l)=false)
  (HD:Hid (∀w,Calls Tryz.prog 120 #[cI (eR p 5) a 0] w fun e w'=>e= .returned (str t)∧Ext w w')):
  Calls Tryz.prog 166 #[str l] w (iE (none) w):=by
 all_goals
  go_enter Tryz.func166,Tryz.ntmps166;go_wp2_with fail;refine(HS _).mono ?_;rintro e w1 ⟨v,rfl,b,h1⟩;obtain⟨g,y,rfl⟩:=Joins.ownsRow_form b (by omega);have e0:=aU b 0 (by omega) _ r;have e1:=aU b 1 (by omega) _ s;have hg:=(b.lt g rfl).2;have f:w.heap.size<w1.heap.size:=Nat.lt_of_lt_of_le (by simp) h1.sz;have ad:w.heap.size<g:=Nat.lt_of_lt_of_le (by simp) (b.lt g rfl).1;obtain⟨m,o⟩:=h1.cells;clear b;go_wp2;go_loopw [6] (fun i wr=> ∃k:Nat,k≤5∧i= .int .i64 k∧wr.heap[w1.heap.size]? =some (.cells #[(eR p k:Int),(),()] 44 (0,0))∧(w1.alloc (.cells #[(-1:Int),(),()] 44)).grownBy wr (some w1.heap.size)) (fun i _=>5-(intOf i).toNat)
  case atStart=>exact⟨0,by omega,rfl,by rw[heap_alloc_new];rfl,World.grownBy.refl _ _⟩
  case round=>
   obtain⟨k,hk,rfl,hB,c⟩:=hrel;have b0:wr.cell? ⟨w1.heap.size,0,none⟩=some (.int .i64 (eR p k)):=Joins.cell_of_block hB 0;have b1:wr.cell? ⟨w1.heap.size,1,none⟩=some (.int .i64 0):=Joins.cell_of_block hB 1;have b2:wr.cell? ⟨w1.heap.size,2,none⟩=some (.int .i64 0):=Joins.cell_of_block hB 2;have u0:=Joins.unfrozen_of_block hB 0;have u1:=Joins.unfrozen_of_block hB 1;have u2:=Joins.unfrozen_of_block hB 2;have HG:=xQ c;have h:=xQ hB;have u:=c.size;simp only[World.size_alloc]at u;have g0:wr.cell? ⟨g,0,none⟩=some (str p):=c.cell (by rw[World.cell?_alloc_past _ _ _ (by simpa using hg)];exact e0) (by simp;omega);have g1:wr.cell? ⟨g,1,none⟩=some (str q):=c.cell (by rw[World.cell?_alloc_past _ _ _ (by simpa using hg)];exact e1) (by simp;omega);have r0: ∀j,j<3→wr.cell? ⟨w.heap.size,j,none⟩=some (.int .i64 0):=fun j hj=>c.cell (by rw[World.cell?_alloc_past _ _ _ (by simpa using f),m _ _ (by simp)];rcases(show j=0∨j=1∨j=2 by omega)with rfl|rfl|rfl<;>simp) (by simp;omega)
   have r1: ∀j,wr.frozen? ⟨w.heap.size,j,none⟩=false:=fun j=>by rw[World.frozen?_of_block (w:=w1.alloc (.cells #[(-1:Int),(),()] 44)) (c.block _ (by simp;omega) (by simp;omega)),World.frozen?_of_block (Below.heap_alloc _ _ _ (by simpa using f)),o _ _ (by simp)];simp
   have aj:=r0 0 (by omega);have ak:=r0 1 (by omega);have al:=r0 2 (by omega);have am:=r1 0;have an:=r1 1;have ao:=r1 2;clear c hB r0 r1 m o e0;by_cases hlt:k<5
   ·by_cases hpk:p=aV k
    ·have hb:(p==aV (k:Int))=true:=by simp[hpk]
     have d:=xQ hpk;clear hpk;go_wp2;go_region_held3 (fun w'=>w'.cell? ⟨g,0,none⟩=some (str p)) (go_keep) ((go_at_call 170;refine(cJ k _ (by omega)).mono ?_;rintro e w2 ⟨rfl,rfl⟩));all_goals go_wp2
     all_goals go_roundw
     all_goals first
      |(case rel=>exact⟨k+1,by omega,by go_num,by rw[jA d.out];exact Joins.block_setCell h.out _,fI (cW HG.out) _ _⟩)
      |(case measure=>simp[intOf];omega)
    have hb:(p==aV (k:Int))=false:=by simp[hpk]
    have d:=xQ hpk;clear hpk;go_wp2;go_region_held3 (fun w'=>w'.cell? ⟨g,0,none⟩=some (str p)) (go_keep) ((go_at_call 170;refine(cJ k _ (by omega)).mono ?_;rintro e w2 ⟨rfl,rfl⟩));all_goals go_wp2
    all_goals go_roundw
    all_goals first
     |(case rel=>exact⟨k+1,by omega,by go_num,by rw[kI d.out];exact h.out,cW HG.out⟩)
     |(case measure=>simp[intOf];omega)
   obtain rfl:k=5:=by omega
   have z:Ext w wr:=dY (h1' h1) HG (by omega);go_wp2_with fail;refine(HR _).mono ?_;rintro e w2 ⟨rfl,rfl⟩;go_wp2_with fail;refine(HD _).mono ?_;rintro e w2 ⟨rfl,h2⟩;obtain⟨aa,ab⟩:=h2.cells;have x:w1.heap.size<w2.heap.size:=Nat.lt_of_lt_of_le (by first|omega|(simp;omega)) h2.sz;have ag:w.heap.size<w2.heap.size:=Nat.lt_trans f x;have ah:w1.heap.size<wr.heap.size:=by omega
   have ai:w.heap.size<wr.heap.size:=by omega
   go_wp2;exact bodyPost_ret (v:=rdV none) (by simp[results,Tryz.results166,go_sem, *];rfl) rfl ⟨rfl,xE⟩
theorem wG (l:List UInt8)(w:World)(ps:List (List UInt8))(n:Nat)(p q t:List UInt8)(a:Int)(hn:n=2)(aa:1≤n)(ab:n≤1099511627777)
  (r:ps[0]? =some p) (s:ps[1]? =some q)
  (HS:Hid (∀w,Calls Tryz.prog 164 #[str l,.int .u8 32] w fun e w'=> ∃v,e= .returned v∧w'.ownsRow w.heap.size 9 1 v n (eX ps)∧Ext w w'))
  (HR:Hid (∀w,Calls Tryz.prog 165 #[str q] w fun e w'=>e= .returned (.int .i64 a)∧w=w'))
  (hl:l.isEmpty=true)
  (HD:Hid (∀w,Calls Tryz.prog 120 #[cI (eR p 5) a 0] w fun e w'=>e= .returned (str t)∧Ext w w')):
  Calls Tryz.prog 166 #[str l] w (iE (none) w):=by
 all_goals
  go_enter Tryz.func166,Tryz.ntmps166;go_wp2_with fail;refine(HS _).mono ?_;rintro e w1 ⟨v,rfl,b,h1⟩;obtain⟨g,x,rfl⟩:=Joins.ownsRow_form b (by omega);have e0:=aU b 0 (by omega) _ r;have e1:=aU b 1 (by omega) _ s;have hg:=(b.lt g rfl).2;have o:w.heap.size<w1.heap.size:=Nat.lt_of_lt_of_le (by simp) h1.sz;have z:w.heap.size<g:=Nat.lt_of_lt_of_le (by simp) (b.lt g rfl).1;obtain⟨h,m⟩:=h1.cells;clear b;go_wp2;go_loopw [6] (fun i wr=> ∃k:Nat,k≤5∧i= .int .i64 k∧wr.heap[w1.heap.size]? =some (.cells #[(eR p k:Int),(),()] 44 (0,0))∧(w1.alloc (.cells #[(-1:Int),(),()] 44)).grownBy wr (some w1.heap.size)) (fun i _=>5-(intOf i).toNat)
  case atStart=>exact⟨0,by omega,rfl,by rw[heap_alloc_new];rfl,World.grownBy.refl _ _⟩
  case round=>
   obtain⟨k,hk,rfl,hB,c⟩:=hrel;have b0:wr.cell? ⟨w1.heap.size,0,none⟩=some (.int .i64 (eR p k)):=Joins.cell_of_block hB 0;have b1:wr.cell? ⟨w1.heap.size,1,none⟩=some (.int .i64 0):=Joins.cell_of_block hB 1;have b2:wr.cell? ⟨w1.heap.size,2,none⟩=some (.int .i64 0):=Joins.cell_of_block hB 2;have u0:=Joins.unfrozen_of_block hB 0;have u1:=Joins.unfrozen_of_block hB 1;have u2:=Joins.unfrozen_of_block hB 2;have HG:=xQ c;have f:=xQ hB;have u:=c.size;simp only[World.size_alloc]at u;have g0:wr.cell? ⟨g,0,none⟩=some (str p):=c.cell (by rw[World.cell?_alloc_past _ _ _ (by simpa using hg)];exact e0) (by simp;omega);have g1:wr.cell? ⟨g,1,none⟩=some (str q):=c.cell (by rw[World.cell?_alloc_past _ _ _ (by simpa using hg)];exact e1) (by simp;omega);have r0: ∀j,j<3→wr.cell? ⟨w.heap.size,j,none⟩=some (.int .i64 0):=fun j hj=>c.cell (by rw[World.cell?_alloc_past _ _ _ (by simpa using o),h _ _ (by simp)];rcases(show j=0∨j=1∨j=2 by omega)with rfl|rfl|rfl<;>simp) (by simp;omega)
   have r1: ∀j,wr.frozen? ⟨w.heap.size,j,none⟩=false:=fun j=>by rw[World.frozen?_of_block (w:=w1.alloc (.cells #[(-1:Int),(),()] 44)) (c.block _ (by simp;omega) (by simp;omega)),World.frozen?_of_block (Below.heap_alloc _ _ _ (by simpa using o)),m _ _ (by simp)];simp
   have ad:=r0 0 (by omega);have ae:=r0 1 (by omega);have af:=r0 2 (by omega);have ag:=r1 0;have ah:=r1 1;have ai:=r1 2;clear c hB r0 r1 h m e0;by_cases hlt:k<5
   ·by_cases hpk:p=aV k
    ·have hb:(p==aV (k:Int))=true:=by simp[hpk]
     have d:=xQ hpk;clear hpk;go_wp2;go_region_held3 (fun w'=>w'.cell? ⟨g,0,none⟩=some (str p)) (go_keep) ((go_at_call 170;refine(cJ k _ (by omega)).mono ?_;rintro e w2 ⟨rfl,rfl⟩));all_goals go_wp2
     all_goals go_roundw
     all_goals first
      |(case rel=>exact⟨k+1,by omega,by go_num,by rw[jA d.out];exact Joins.block_setCell f.out _,fI (cW HG.out) _ _⟩)
      |(case measure=>simp[intOf];omega)
    have hb:(p==aV (k:Int))=false:=by simp[hpk]
    have d:=xQ hpk;clear hpk;go_wp2;go_region_held3 (fun w'=>w'.cell? ⟨g,0,none⟩=some (str p)) (go_keep) ((go_at_call 170;refine(cJ k _ (by omega)).mono ?_;rintro e w2 ⟨rfl,rfl⟩));all_goals go_wp2
    all_goals go_roundw
    all_goals first
     |(case rel=>exact⟨k+1,by omega,by go_num,by rw[kI d.out];exact f.out,cW HG.out⟩)
     |(case measure=>simp[intOf];omega)
   obtain rfl:k=5:=by omega
   have y:Ext w wr:=dY (h1' h1) HG (by omega);go_wp2_with fail;refine(HR _).mono ?_;rintro e w2 ⟨rfl,rfl⟩;go_wp2;exact bodyPost_ret (v:=rdV none) (by simp[results,Tryz.results166,go_sem, *];rfl) rfl ⟨rfl,xE⟩
theorem zF (l:List UInt8)(w:World)(ps:List (List UInt8))(n:Nat)(p q r t:List UInt8)(a b:Int)(hn:3≤n)(ai:1≤n)(aj:n≤1099511627777)
  (x:ps[0]? =some p) (y:ps[1]? =some q) (z:ps[2]? =some r)
  (HS:Hid (∀w,Calls Tryz.prog 164 #[str l,.int .u8 32] w fun e w'=> ∃v,e= .returned v∧w'.ownsRow w.heap.size 9 1 v n (eX ps)∧Ext w w'))
  (HR:Hid (∀w,Calls Tryz.prog 165 #[str q] w fun e w'=>e= .returned (.int .i64 a)∧w=w'))
  (u:Hid (∀w,Calls Tryz.prog 165 #[str r] w fun e w'=>e= .returned (.int .i64 b)∧w=w'))
  (hl:l.isEmpty=false) (ht:(t==l)=true)
  (HD:Hid (∀w,Calls Tryz.prog 120 #[cI (eR p 5) a b] w fun e w'=>e= .returned (str t)∧Ext w w')):
  Calls Tryz.prog 166 #[str l] w (iE (some (eR p 5,a,b)) w):=by
 all_goals
  go_enter Tryz.func166,Tryz.ntmps166;go_wp2_with fail;refine(HS _).mono ?_;rintro e w1 ⟨v,rfl,c,h1⟩;obtain⟨g,ad,rfl⟩:=Joins.ownsRow_form c (by omega);have ak:(0:Int)<(n:Int):=by omega
  have al:0<n:=by omega
  have e0:=aU c 0 (by omega) _ x;have e1:=aU c 1 (by omega) _ y;have e2:=aU c 2 (by omega) _ z;have hg:=(c.lt g rfl).2;have h:w.heap.size<w1.heap.size:=Nat.lt_of_lt_of_le (by simp) h1.sz;have ah:w.heap.size<g:=Nat.lt_of_lt_of_le (by simp) (c.lt g rfl).1;obtain⟨o,s⟩:=h1.cells;clear c;go_wp2;go_loopw [6] (fun i wr=> ∃k:Nat,k≤5∧i= .int .i64 k∧wr.heap[w1.heap.size]? =some (.cells #[(eR p k:Int),(),()] 44 (0,0))∧(w1.alloc (.cells #[(-1:Int),(),()] 44)).grownBy wr (some w1.heap.size)) (fun i _=>5-(intOf i).toNat)
  case atStart=>exact⟨0,by omega,rfl,by rw[heap_alloc_new];rfl,World.grownBy.refl _ _⟩
  case round=>
   obtain⟨k,hk,rfl,hB,d⟩:=hrel;have b0:wr.cell? ⟨w1.heap.size,0,none⟩=some (.int .i64 (eR p k)):=Joins.cell_of_block hB 0;have b1:wr.cell? ⟨w1.heap.size,1,none⟩=some (.int .i64 0):=Joins.cell_of_block hB 1;have b2:wr.cell? ⟨w1.heap.size,2,none⟩=some (.int .i64 0):=Joins.cell_of_block hB 2;have u0:=Joins.unfrozen_of_block hB 0;have u1:=Joins.unfrozen_of_block hB 1;have u2:=Joins.unfrozen_of_block hB 2;have HG:=xQ d;have m:=xQ hB;have aa:=d.size;simp only[World.size_alloc]at aa;have g0:wr.cell? ⟨g,0,none⟩=some (str p):=d.cell (by rw[World.cell?_alloc_past _ _ _ (by simpa using hg)];exact e0) (by simp;omega);have g1:wr.cell? ⟨g,1,none⟩=some (str q):=d.cell (by rw[World.cell?_alloc_past _ _ _ (by simpa using hg)];exact e1) (by simp;omega);have g2:wr.cell? ⟨g,2,none⟩=some (str r):=d.cell (by rw[World.cell?_alloc_past _ _ _ (by simpa using hg)];exact e2) (by simp;omega);have r0: ∀j,j<3→wr.cell? ⟨w.heap.size,j,none⟩=some (.int .i64 0):=fun j hj=>d.cell (by rw[World.cell?_alloc_past _ _ _ (by simpa using h),o _ _ (by simp)];rcases(show j=0∨j=1∨j=2 by omega)with rfl|rfl|rfl<;>simp) (by simp;omega)
   have r1: ∀j,wr.frozen? ⟨w.heap.size,j,none⟩=false:=fun j=>by rw[World.frozen?_of_block (w:=w1.alloc (.cells #[(-1:Int),(),()] 44)) (d.block _ (by simp;omega) (by simp;omega)),World.frozen?_of_block (Below.heap_alloc _ _ _ (by simpa using h)),s _ _ (by simp)];simp
   have ap:=r0 0 (by omega);have aq:=r0 1 (by omega);have ar:=r0 2 (by omega);have au:=r1 0;have av:=r1 1;have aw:=r1 2;clear d hB r0 r1 o s e0;by_cases hlt:k<5
   ·by_cases hpk:p=aV k
    ·have hb:(p==aV (k:Int))=true:=by simp[hpk]
     have f:=xQ hpk;clear hpk;go_wp2;go_region_held3 (fun w'=>w'.cell? ⟨g,0,none⟩=some (str p)) (go_keep) ((go_at_call 170;refine(cJ k _ (by omega)).mono ?_;rintro e w2 ⟨rfl,rfl⟩));all_goals go_wp2
     all_goals go_roundw
     all_goals first
      |(case rel=>exact⟨k+1,by omega,by go_num,by rw[jA f.out];exact Joins.block_setCell m.out _,fI (cW HG.out) _ _⟩)
      |(case measure=>simp[intOf];omega)
    have hb:(p==aV (k:Int))=false:=by simp[hpk]
    have f:=xQ hpk;clear hpk;go_wp2;go_region_held3 (fun w'=>w'.cell? ⟨g,0,none⟩=some (str p)) (go_keep) ((go_at_call 170;refine(cJ k _ (by omega)).mono ?_;rintro e w2 ⟨rfl,rfl⟩));all_goals go_wp2
    all_goals go_roundw
    all_goals first
     |(case rel=>exact⟨k+1,by omega,by go_num,by rw[kI f.out];exact m.out,cW HG.out⟩)
     |(case measure=>simp[intOf];omega)
   obtain rfl:k=5:=by omega
   have ae:Ext w wr:=dY (h1' h1) HG (by omega);go_wp2_with fail;refine(HR _).mono ?_;rintro e w2 ⟨rfl,rfl⟩;go_wp2_with fail;refine(u _).mono ?_;rintro e w2 ⟨rfl,rfl⟩;go_wp2_with fail;refine(HD _).mono ?_;rintro e w2 ⟨rfl,h2⟩;obtain⟨af,ag⟩:=h2.cells;have ab:w1.heap.size<w2.heap.size:=Nat.lt_of_lt_of_le (by first|omega|(simp;omega)) h2.sz;have am:w.heap.size<w2.heap.size:=Nat.lt_trans h ab;have an:w1.heap.size<wr.heap.size:=by omega
   have ao:w.heap.size<wr.heap.size:=by omega
   go_wp2;exact bodyPost_ret (v:=rdV (some (_,a,b))) (by simp[results,Tryz.results166,go_sem, *];rfl) rfl ⟨rfl,xE⟩
theorem zG (l:List UInt8)(w:World)(ps:List (List UInt8))(n:Nat)(p q r t:List UInt8)(a b:Int)(hn:3≤n)(ai:1≤n)(aj:n≤1099511627777)
  (x:ps[0]? =some p) (y:ps[1]? =some q) (z:ps[2]? =some r)
  (HS:Hid (∀w,Calls Tryz.prog 164 #[str l,.int .u8 32] w fun e w'=> ∃v,e= .returned v∧w'.ownsRow w.heap.size 9 1 v n (eX ps)∧Ext w w'))
  (HR:Hid (∀w,Calls Tryz.prog 165 #[str q] w fun e w'=>e= .returned (.int .i64 a)∧w=w'))
  (u:Hid (∀w,Calls Tryz.prog 165 #[str r] w fun e w'=>e= .returned (.int .i64 b)∧w=w'))
  (hl:l.isEmpty=false) (ht:(t==l)=false)
  (HD:Hid (∀w,Calls Tryz.prog 120 #[cI (eR p 5) a b] w fun e w'=>e= .returned (str t)∧Ext w w')):
  Calls Tryz.prog 166 #[str l] w (iE (none) w):=by
 all_goals
  go_enter Tryz.func166,Tryz.ntmps166;go_wp2_with fail;refine(HS _).mono ?_;rintro e w1 ⟨v,rfl,c,h1⟩;obtain⟨g,ad,rfl⟩:=Joins.ownsRow_form c (by omega);have ak:(0:Int)<(n:Int):=by omega
  have al:0<n:=by omega
  have e0:=aU c 0 (by omega) _ x;have e1:=aU c 1 (by omega) _ y;have e2:=aU c 2 (by omega) _ z;have hg:=(c.lt g rfl).2;have h:w.heap.size<w1.heap.size:=Nat.lt_of_lt_of_le (by simp) h1.sz;have ah:w.heap.size<g:=Nat.lt_of_lt_of_le (by simp) (c.lt g rfl).1;obtain⟨o,s⟩:=h1.cells;clear c;go_wp2;go_loopw [6] (fun i wr=> ∃k:Nat,k≤5∧i= .int .i64 k∧wr.heap[w1.heap.size]? =some (.cells #[(eR p k:Int),(),()] 44 (0,0))∧(w1.alloc (.cells #[(-1:Int),(),()] 44)).grownBy wr (some w1.heap.size)) (fun i _=>5-(intOf i).toNat)
  case atStart=>exact⟨0,by omega,rfl,by rw[heap_alloc_new];rfl,World.grownBy.refl _ _⟩
  case round=>
   obtain⟨k,hk,rfl,hB,d⟩:=hrel;have b0:wr.cell? ⟨w1.heap.size,0,none⟩=some (.int .i64 (eR p k)):=Joins.cell_of_block hB 0;have b1:wr.cell? ⟨w1.heap.size,1,none⟩=some (.int .i64 0):=Joins.cell_of_block hB 1;have b2:wr.cell? ⟨w1.heap.size,2,none⟩=some (.int .i64 0):=Joins.cell_of_block hB 2;have u0:=Joins.unfrozen_of_block hB 0;have u1:=Joins.unfrozen_of_block hB 1;have u2:=Joins.unfrozen_of_block hB 2;have HG:=xQ d;have m:=xQ hB;have aa:=d.size;simp only[World.size_alloc]at aa;have g0:wr.cell? ⟨g,0,none⟩=some (str p):=d.cell (by rw[World.cell?_alloc_past _ _ _ (by simpa using hg)];exact e0) (by simp;omega);have g1:wr.cell? ⟨g,1,none⟩=some (str q):=d.cell (by rw[World.cell?_alloc_past _ _ _ (by simpa using hg)];exact e1) (by simp;omega);have g2:wr.cell? ⟨g,2,none⟩=some (str r):=d.cell (by rw[World.cell?_alloc_past _ _ _ (by simpa using hg)];exact e2) (by simp;omega);have r0: ∀j,j<3→wr.cell? ⟨w.heap.size,j,none⟩=some (.int .i64 0):=fun j hj=>d.cell (by rw[World.cell?_alloc_past _ _ _ (by simpa using h),o _ _ (by simp)];rcases(show j=0∨j=1∨j=2 by omega)with rfl|rfl|rfl<;>simp) (by simp;omega)
   have r1: ∀j,wr.frozen? ⟨w.heap.size,j,none⟩=false:=fun j=>by rw[World.frozen?_of_block (w:=w1.alloc (.cells #[(-1:Int),(),()] 44)) (d.block _ (by simp;omega) (by simp;omega)),World.frozen?_of_block (Below.heap_alloc _ _ _ (by simpa using h)),s _ _ (by simp)];simp
   have ap:=r0 0 (by omega);have aq:=r0 1 (by omega);have ar:=r0 2 (by omega);have au:=r1 0;have av:=r1 1;have aw:=r1 2;clear d hB r0 r1 o s e0;by_cases hlt:k<5
   ·by_cases hpk:p=aV k
    ·have hb:(p==aV (k:Int))=true:=by simp[hpk]
     have f:=xQ hpk;clear hpk;go_wp2;go_region_held3 (fun w'=>w'.cell? ⟨g,0,none⟩=some (str p)) (go_keep) ((go_at_call 170;refine(cJ k _ (by omega)).mono ?_;rintro e w2 ⟨rfl,rfl⟩));all_goals go_wp2
     all_goals go_roundw
     all_goals first
      |(case rel=>exact⟨k+1,by omega,by go_num,by rw[jA f.out];exact Joins.block_setCell m.out _,fI (cW HG.out) _ _⟩)
      |(case measure=>simp[intOf];omega)
    have hb:(p==aV (k:Int))=false:=by simp[hpk]
    have f:=xQ hpk;clear hpk;go_wp2;go_region_held3 (fun w'=>w'.cell? ⟨g,0,none⟩=some (str p)) (go_keep) ((go_at_call 170;refine(cJ k _ (by omega)).mono ?_;rintro e w2 ⟨rfl,rfl⟩));all_goals go_wp2
    all_goals go_roundw
    all_goals first
     |(case rel=>exact⟨k+1,by omega,by go_num,by rw[kI f.out];exact m.out,cW HG.out⟩)
     |(case measure=>simp[intOf];omega)
   obtain rfl:k=5:=by omega
   have ae:Ext w wr:=dY (h1' h1) HG (by omega);go_wp2_with fail;refine(HR _).mono ?_;rintro e w2 ⟨rfl,rfl⟩;go_wp2_with fail;refine(u _).mono ?_;rintro e w2 ⟨rfl,rfl⟩;go_wp2_with fail;refine(HD _).mono ?_;rintro e w2 ⟨rfl,h2⟩;obtain⟨af,ag⟩:=h2.cells;have ab:w1.heap.size<w2.heap.size:=Nat.lt_of_lt_of_le (by first|omega|(simp;omega)) h2.sz;have am:w.heap.size<w2.heap.size:=Nat.lt_trans h ab;have an:w1.heap.size<wr.heap.size:=by omega
   have ao:w.heap.size<wr.heap.size:=by omega
   go_wp2;exact bodyPost_ret (v:=rdV none) (by simp[results,Tryz.results166,go_sem, *];rfl) rfl ⟨rfl,xE⟩
theorem wF (l:List UInt8)(w:World)(ps:List (List UInt8))(n:Nat)(p q r t:List UInt8)(a b:Int)(hn:3≤n)(af:1≤n)(ag:n≤1099511627777)
  (x:ps[0]? =some p) (y:ps[1]? =some q) (z:ps[2]? =some r)
  (HS:Hid (∀w,Calls Tryz.prog 164 #[str l,.int .u8 32] w fun e w'=> ∃v,e= .returned v∧w'.ownsRow w.heap.size 9 1 v n (eX ps)∧Ext w w'))
  (HR:Hid (∀w,Calls Tryz.prog 165 #[str q] w fun e w'=>e= .returned (.int .i64 a)∧w=w'))
  (u:Hid (∀w,Calls Tryz.prog 165 #[str r] w fun e w'=>e= .returned (.int .i64 b)∧w=w'))
  (hl:l.isEmpty=true)
  (HD:Hid (∀w,Calls Tryz.prog 120 #[cI (eR p 5) a b] w fun e w'=>e= .returned (str t)∧Ext w w')):
  Calls Tryz.prog 166 #[str l] w (iE (none) w):=by
 all_goals
  go_enter Tryz.func166,Tryz.ntmps166;go_wp2_with fail;refine(HS _).mono ?_;rintro e w1 ⟨v,rfl,c,h1⟩;obtain⟨g,ab,rfl⟩:=Joins.ownsRow_form c (by omega);have ah:(0:Int)<(n:Int):=by omega
  have ai:0<n:=by omega
  have e0:=aU c 0 (by omega) _ x;have e1:=aU c 1 (by omega) _ y;have e2:=aU c 2 (by omega) _ z;have hg:=(c.lt g rfl).2;have s:w.heap.size<w1.heap.size:=Nat.lt_of_lt_of_le (by simp) h1.sz;have ae:w.heap.size<g:=Nat.lt_of_lt_of_le (by simp) (c.lt g rfl).1;obtain⟨m,o⟩:=h1.cells;clear c;go_wp2;go_loopw [6] (fun i wr=> ∃k:Nat,k≤5∧i= .int .i64 k∧wr.heap[w1.heap.size]? =some (.cells #[(eR p k:Int),(),()] 44 (0,0))∧(w1.alloc (.cells #[(-1:Int),(),()] 44)).grownBy wr (some w1.heap.size)) (fun i _=>5-(intOf i).toNat)
  case atStart=>exact⟨0,by omega,rfl,by rw[heap_alloc_new];rfl,World.grownBy.refl _ _⟩
  case round=>
   obtain⟨k,hk,rfl,hB,d⟩:=hrel;have b0:wr.cell? ⟨w1.heap.size,0,none⟩=some (.int .i64 (eR p k)):=Joins.cell_of_block hB 0;have b1:wr.cell? ⟨w1.heap.size,1,none⟩=some (.int .i64 0):=Joins.cell_of_block hB 1;have b2:wr.cell? ⟨w1.heap.size,2,none⟩=some (.int .i64 0):=Joins.cell_of_block hB 2;have u0:=Joins.unfrozen_of_block hB 0;have u1:=Joins.unfrozen_of_block hB 1;have u2:=Joins.unfrozen_of_block hB 2;have HG:=xQ d;have h:=xQ hB;have aa:=d.size;simp only[World.size_alloc]at aa;have g0:wr.cell? ⟨g,0,none⟩=some (str p):=d.cell (by rw[World.cell?_alloc_past _ _ _ (by simpa using hg)];exact e0) (by simp;omega);have g1:wr.cell? ⟨g,1,none⟩=some (str q):=d.cell (by rw[World.cell?_alloc_past _ _ _ (by simpa using hg)];exact e1) (by simp;omega);have g2:wr.cell? ⟨g,2,none⟩=some (str r):=d.cell (by rw[World.cell?_alloc_past _ _ _ (by simpa using hg)];exact e2) (by simp;omega);have r0: ∀j,j<3→wr.cell? ⟨w.heap.size,j,none⟩=some (.int .i64 0):=fun j hj=>d.cell (by rw[World.cell?_alloc_past _ _ _ (by simpa using s),m _ _ (by simp)];rcases(show j=0∨j=1∨j=2 by omega)with rfl|rfl|rfl<;>simp) (by simp;omega)
   have r1: ∀j,wr.frozen? ⟨w.heap.size,j,none⟩=false:=fun j=>by rw[World.frozen?_of_block (w:=w1.alloc (.cells #[(-1:Int),(),()] 44)) (d.block _ (by simp;omega) (by simp;omega)),World.frozen?_of_block (Below.heap_alloc _ _ _ (by simpa using s)),o _ _ (by simp)];simp
   have aj:=r0 0 (by omega);have ak:=r0 1 (by omega);have al:=r0 2 (by omega);have am:=r1 0;have an:=r1 1;have ao:=r1 2;clear d hB r0 r1 m o e0;by_cases hlt:k<5
   ·by_cases hpk:p=aV k
    ·have hb:(p==aV (k:Int))=true:=by simp[hpk]
     have f:=xQ hpk;clear hpk;go_wp2;go_region_held3 (fun w'=>w'.cell? ⟨g,0,none⟩=some (str p)) (go_keep) ((go_at_call 170;refine(cJ k _ (by omega)).mono ?_;rintro e w2 ⟨rfl,rfl⟩));all_goals go_wp2
     all_goals go_roundw
     all_goals first
      |(case rel=>exact⟨k+1,by omega,by go_num,by rw[jA f.out];exact Joins.block_setCell h.out _,fI (cW HG.out) _ _⟩)
      |(case measure=>simp[intOf];omega)
    have hb:(p==aV (k:Int))=false:=by simp[hpk]
    have f:=xQ hpk;clear hpk;go_wp2;go_region_held3 (fun w'=>w'.cell? ⟨g,0,none⟩=some (str p)) (go_keep) ((go_at_call 170;refine(cJ k _ (by omega)).mono ?_;rintro e w2 ⟨rfl,rfl⟩));all_goals go_wp2
    all_goals go_roundw
    all_goals first
     |(case rel=>exact⟨k+1,by omega,by go_num,by rw[kI f.out];exact h.out,cW HG.out⟩)
     |(case measure=>simp[intOf];omega)
   obtain rfl:k=5:=by omega
   have ad:Ext w wr:=dY (h1' h1) HG (by omega);go_wp2_with fail;refine(HR _).mono ?_;rintro e w2 ⟨rfl,rfl⟩;go_wp2_with fail;refine(u _).mono ?_;rintro e w2 ⟨rfl,rfl⟩;go_wp2;exact bodyPost_ret (v:=rdV none) (by simp[results,Tryz.results166,go_sem, *];rfl) rfl ⟨rfl,xE⟩
end Go.Proofs.YtpelpnfhbepokaaGreatDoor
namespace Go.Proofs.YtpelpnfhbepokaaGreatDoor
open Go.RowKit
set_option linter.unusedVariables false
theorem vA (q:List UInt8)(hq:q.length≤maxLen)(w:World):Calls Tryz.prog 165 #[str q] w fun e w'=>e= .returned (.int .i64 ((dE 4 q).getD (-1)))∧w=w':=
 aEn ⟨q.toArray⟩ w (by simpa[ByteArray.size]using hq)
theorem mJ (l:List UInt8)(d:Int×Int×Int)(h:iJ (cE 32 l)=d):kU l=if l≠ []∧aS d.1 d.2.1 d.2.2=l then some d else none:=by unfold kU;rw[h]
theorem zE (l:List UInt8)(w:World)(hs:l.length≤1099511627776):Calls Tryz.prog 166 #[str l] w (iE (bO l) w):=by
 rw[←aBb]
 have hS: ∀w,Calls Tryz.prog 164 #[str l,.int .u8 32] w fun e w'=> ∃v,e= .returned v∧w'.ownsRow w.heap.size 9 1 v (cE 32 l).length (eX (cE 32 l))∧Ext w w':=
  fun w=>sD ⟨l.toArray⟩ 32 32 rfl w (by simpa[ByteArray.size]using hs)
 have i:=vU 32 l;have d:(cE 32 l).length≤1099511627777:=by omega
 have c: ∀q∈cE 32 l,Hid (∀w,Calls Tryz.prog 165 #[str q] w fun e w'=>e= .returned (.int .i64 ((dE 4 q).getD (-1)))∧w=w'):=
  fun q hq w=>vA q (by have:=i.1 q hq;unfold maxLen;omega) w
 have hD: ∀k a b,Hid (∀w,Calls Tryz.prog 120 #[cI k a b] w fun e w'=>e= .returned (str (aS k a b))∧Ext w w'):=fun k a b w=>uK k a b w
 have f:l= []∨l≠ []:=by by_cases h:l= []<;>simp[h]
 rcases hc:cE 32 l with _|⟨p,_|⟨q,_|⟨r,g⟩⟩⟩
 ·exact absurd hc (jS 32 l)
 ·rw[mJ l (eR p 5,0,0) (by rw[hc,sE];rfl)];rw[hc]at hS c;rcases f with h0|h0
  ·rw[if_neg (by simp[h0])];exact wH l w [p] 1 p _ rfl (by omega) (by omega) rfl hS (by simp[h0]) (hD _ _ _)
  by_cases ht:aS (eR p 5) 0 0=l
  ·rw[if_pos ⟨h0,ht⟩];exact zJ l w [p] 1 p _ rfl (by omega) (by omega) rfl hS (by simp[h0]) (by simpa using ht) (hD _ _ _)
  rw[if_neg (by simp[ht])];exact zK l w [p] 1 p _ rfl (by omega) (by omega) rfl hS (by simp[h0]) (by simpa using ht) (hD _ _ _)
 ·rw[mJ l (eR p 5,(dE 4 q).getD (-1),0) (by rw[hc,sE];rfl)];rw[hc]at hS c;rcases f with h0|h0
  ·rw[if_neg (by simp[h0])];exact wG l w [p,q] 2 p q _ _ rfl (by omega) (by omega) rfl rfl hS (c q (by simp)) (by simp[h0]) (hD _ _ _)
  by_cases ht:aS (eR p 5) ((dE 4 q).getD (-1)) 0=l
  ·rw[if_pos ⟨h0,ht⟩];exact zH l w [p,q] 2 p q _ _ rfl (by omega) (by omega) rfl rfl hS (c q (by simp)) (by simp[h0]) (by simpa using ht) (hD _ _ _)
  rw[if_neg (by simp[ht])];exact zI l w [p,q] 2 p q _ _ rfl (by omega) (by omega) rfl rfl hS (c q (by simp)) (by simp[h0]) (by simpa using ht) (hD _ _ _)
 rw[mJ l (eR p 5,(dE 4 q).getD (-1),(dE 4 r).getD (-1)) (by rw[hc,sE];rfl)];rw[hc]at hS c d;rcases f with h0|h0
 ·rw[if_neg (by simp[h0])];exact wF l w (p::q::r::g) _ p q r _ _ _ (by simp) (by simp) d rfl rfl rfl hS (c q (by simp)) (c r (by simp)) (by simp[h0]) (hD _ _ _)
 by_cases ht:aS (eR p 5) ((dE 4 q).getD (-1)) ((dE 4 r).getD (-1))=l
 ·rw[if_pos ⟨h0,ht⟩];exact zF l w (p::q::r::g) _ p q r _ _ _ (by simp) (by simp) d rfl rfl rfl hS (c q (by simp)) (c r (by simp)) (by simp[h0]) (by simpa using ht) (hD _ _ _)
 rw[if_neg (by simp[ht])];exact zG l w (p::q::r::g) _ p q r _ _ _ (by simp) (by simp) d rfl rfl rfl hS (c q (by simp)) (c r (by simp)) (by simp[h0]) (by simpa using ht) (hD _ _ _)
end Go.Proofs.YtpelpnfhbepokaaGreatDoor
