/-
  Texts of this proof, packed (@packed).
-/
import Derived.Test.YtbgkcehffiogcaaGreatDoorY24
namespace Go.Proofs.YtbgkcehffiogcaaGreatDoor
open Go.RowKit
set_option linter.unusedSimpArgs false
set_option linter.unusedVariables false
set_option maxHeartbeats 8000000
set_option maxRecDepth 100000
section
open Go.Proofs.Tryz
theorem aLw (l:List UInt8):(⟨l.toArray⟩:ByteArray).size=l.length:=by simp[ByteArray.size]
theorem aNl (a:Int)(h0:0≤a)(h1:a<6): ∃x:ByteArray,(#[.string ⟨#[]⟩,.string ⟨#[48]⟩,.string ⟨#[59]⟩,.string ⟨#[35]⟩,.string ⟨#[57]⟩,.string ⟨#[53,58]⟩]:Array Value)[a.toNat]? =some (.string x)∧x.size≤2:=by rcases(show a=0∨a=1∨a=2∨a=3∨a=4∨a=5 by omega)with rfl|rfl|rfl|rfl|rfl|rfl;all_goals exact⟨_,rfl,by decide⟩
theorem aLa {j:Nat}{x:ByteArray}(hx:(#[.string ⟨#[]⟩,.string ⟨#[48]⟩,.string ⟨#[59]⟩,.string ⟨#[35]⟩,.string ⟨#[57]⟩,.string ⟨#[53,58]⟩]:Array Value)[j]? =some (.string x)) (h:j<([.string ⟨#[]⟩,.string ⟨#[48]⟩,.string ⟨#[59]⟩,.string ⟨#[35]⟩,.string ⟨#[57]⟩,.string ⟨#[53,58]⟩]:List Value).length):
  ([.string ⟨#[]⟩,.string ⟨#[48]⟩,.string ⟨#[59]⟩,.string ⟨#[35]⟩,.string ⟨#[57]⟩,.string ⟨#[53,58]⟩]:List Value)[j]'h= .string x:=by
 have:=aPw h;have h2:([.string ⟨#[]⟩,.string ⟨#[48]⟩,.string ⟨#[59]⟩,.string ⟨#[35]⟩,.string ⟨#[57]⟩,.string ⟨#[53,58]⟩]:List Value)[j]? =some (.string x):=by simpa using hx
 rw[this]at h2;injection h2
theorem aCv (s x:ByteArray)(j:Nat)(hj:j<s.size)(hx:x.size≤2):(s.extract 0 j++x++s.extract (j+1) s.size).size≤s.size+1:=by simp[ByteArray.size_append,ByteArray.size_extract];omega
def aNc (R k m:Nat)(w:World)(e:Ending)(w':World):Prop:= ∃s:ByteArray,e= .returned (.string s)∧s.size≤m∧Rand w' R k∧ExtR R w w'
theorem zC (R c:Nat)(s:ByteArray)(w:World)(hr:Rand w R c)(hc:c≤1000000)(hs:s.size≤1000000):U 81 #[.pointer (some ⟨R,0,none⟩),.string s] w (aNc R (c+2) (s.size+1) w):=by
 by_cases h0:s.size=0
 ·have b:s=⟨#[]⟩:=by
   obtain⟨⟨l⟩⟩:=s;simp[ByteArray.size]at h0;rw[h0]
  subst b;go_enter func81,ntmps81;go_wp2;go_ret;exact⟨_,rfl,by decide,hr.mono (by omega),ExtR.refl _ _⟩
 have t0:((s.size:Int)==0)=false:=by simp[h0]
 have h1:0<s.size:=by omega
 clear h0;go_enter func81,ntmps81;go_wp2_with fail;refine(bZ R (c) (s.size:Int) _ (hr) (by omega)).mono ?_;rintro e w5 ⟨j,rfl,j0,j1,r5,x5⟩;replace j1:j<(s.size:Int):=by omega
 have a:=r5.lt;obtain⟨jn,rfl⟩:=aQi j0;have i1:jn<s.size:=by omega
 have i2:(jn:Int)≤(s.size:Int):=by omega
 have i3:(jn:Int)+1≤(s.size:Int):=by omega
 have i4:IntKind.i64.wrap ((jn:Int)+1)=(jn:Int)+1:=aPx _ (by omega);have i5:(0:Int)≤(jn:Int)+1:=by omega
 have i6:((jn:Int)+1).toNat=jn+1:=by omega
 go_wp2;go_region_with (go_at_call 45;refine(bZ R (c+1) 6 _ (by first|exact r5|exact r5.alloc _|exact(r5.alloc _).drew|exact r5.drew|exact r5.drew.alloc _) (by omega)).mono ?_;rintro e w6 ⟨d,rfl,d0,d1,r6,x6⟩;(replace d1:d<6:=by omega);obtain⟨x,hx,hx2⟩:=aNl d d0 d1;(have HX:=xQ hx);(have hq: ∀h,([.string ⟨#[]⟩,.string ⟨#[48]⟩,.string ⟨#[59]⟩,.string ⟨#[35]⟩,.string ⟨#[57]⟩,.string ⟨#[53,58]⟩]:List Value)[d.toNat]'h= .string x:=fun h=>aLa HX h);clear hx;(first|(have gB:Blk w6 w5 9 #[.string ⟨#[]⟩,.string ⟨#[48]⟩,.string ⟨#[59]⟩,.string ⟨#[35]⟩,.string ⟨#[57]⟩,.string ⟨#[53,58]⟩]:=x6.blk (Blk.new w5 _ _) (Nat.ne_of_gt a);have gl:w6.cell? ⟨w5,d.toNat,none⟩=some (.string x):=(gB.cell d.toNat).trans HX.out;clear gB)|skip))
 all_goals go_wp2
 all_goals go_ret
 all_goals exact⟨_,rfl,aCv s x jn i1 hx2,xN,xR⟩
def jO (p:List UInt8):Nat→Int
 |0=> -1
 |k+1=>if p=bM k then k else jO p k
theorem uA (p:List UInt8):jO p 5=(iN p).getD (-1):=by
 cases h:iN p with
 |none=>obtain⟨n1,n2,n3,n4,n5⟩:=oZ h;simp only[beq_eq_false_iff_ne,ne_eq]at n1 n2 n3 n4 n5;simp[jO,bM,n1,n2,n3,n4,n5]
 |some k=>rcases eX h with⟨rfl,rfl⟩|⟨rfl,rfl⟩|⟨rfl,rfl⟩|⟨rfl,rfl⟩|⟨rfl,rfl⟩<;>decide
theorem xI {p:List UInt8}{k:Nat}(h:p=bM k):jO p (k+1)=k:=by simp[jO,h]
theorem aBp {p:List UInt8}{k:Nat}(h:p≠bM k):jO p (k+1)=jO p k:=by simp[jO,h]
theorem rJ {W0 wr:World}{B:Nat}(hg:W0.grownBy wr (some B))(o:Nat)(v:Value):W0.grownBy (wr.setCell ⟨B,o,none⟩ v) (some B):=
 ⟨hg.os,hg.tape,hg.output,by simpa using hg.size,fun k hk hne=>by rw[aSa _ _ _ _ (fun e=>hne (by simp[e]))];exact hg.block k hk hne⟩
theorem kF {W0 wr:World}{r:Option Nat}(hg:W0.grownBy wr r):W0.grownBy wr.drew r:=⟨hg.os,hg.tape,hg.output,hg.size,hg.block⟩
theorem oG {w W0 wr:World}{B:Nat}(h:Ext w W0)(hg:W0.grownBy wr (some B))(hB:w.heap.size≤B):Ext w wr:=h.grown hg (fun k hk=>by simp at hk;omega)
theorem h1' {w w1:World}{o o2:Obj}(h:Ext (w.alloc o) w1):Ext w (w1.alloc o2):=(((Ext.refl w).alloc o).trans h).alloc o2
theorem aIo (l:List UInt8)(w:World)(ps:List (List UInt8))(n:Nat)(p t:List UInt8)(hn:n=1)(af:1≤n)(ag:n≤1099511627777)
  (u:ps[0]? =some p)
  (HS:Hid (∀w,U 118 #[str l,.int .u8 32] w fun e w'=> ∃v,e= .returned v∧w'.ownsRow w 9 1 v n (gK ps)∧Ext w w'))
  (HD:Hid (∀w,U 79 #[cF (jO p 5) 0 0] w (O (str t) w))):
  U 120 #[str l] w (mC (if l≠ []∧t=l then some (jO p 5,0,0)else none) w):=by
  obtain⟨o,ho⟩: ∃o:Option (Int×Int×Int),(if l≠ []∧t=l then some (jO p 5,0,0)else none)=o:=⟨_,rfl⟩
  rw[ho];have HO:=xQ ho;clear ho;go_enter func120,ntmps120;go_wp2_with fail;refine(HS _).mono ?_;rintro e w1 ⟨v,rfl,a,h1⟩;obtain⟨g,ab,rfl⟩:=aQk a (by omega);have e0:=bI a 0 (by omega) _ u;have hg:=(a.lt g rfl).2;have c:(w:Nat)<w1:=aPu (by simp) h1.sz;have ae:w.heap.size<g:=aPu (by simp) (a.lt g rfl).1;obtain⟨m,q⟩:=h1.cells;clear a;go_wp2;go_loopw [6] (fun i wr=> ∃k:Nat,k≤5∧i=I k∧wr.heap[w1.heap.size]? =some (.cells #[(jO p k:Int),(),()] 44 (0,0))∧(w1.alloc (.cells #[(-1:Int),(),()] 44)).grownBy wr (some w1)) (fun i _=>5-(intOf i).toNat)
  case atStart=>exact⟨0,by omega,rfl,by rw[heap_alloc_new];rfl,aRd _ _⟩
  case round=>
   obtain⟨k,hk,rfl,hB,b⟩:=hrel;have b0:wr.cell? ⟨w1,0,none⟩=some (I (jO p k)):=aRh hB 0;have b1:wr.cell? ⟨w1,1,none⟩=some (I 0):=aRh hB 1;have b2:wr.cell? ⟨w1,2,none⟩=some (I 0):=aRh hB 2;have u0:=aRa hB 0;have u1:=aRa hB 1;have u2:=aRa hB 2;have HG:=xQ b;have h:=xQ hB;have x:=b.size;simp only[aSf]at x;have g0:wr.cell? ⟨g,0,none⟩=some (str p):=b.cell (by rw[aR6 _ _ _ (by simpa using hg)];exact e0) (by simp;omega);have r0: ∀j,j<3→wr.cell? ⟨w,j,none⟩=some (I 0):=fun j hj=>b.cell (by rw[aR6 _ _ _ (by simpa using c),m _ _ (by simp)];rcases(show j=0∨j=1∨j=2 by omega)with rfl|rfl|rfl<;>simp) (by simp;omega)
   have r1: ∀j,wr.frozen? ⟨w,j,none⟩=false:=fun j=>by rw[aRv (w:=w1.alloc (.cells #[(-1:Int),(),()] 44)) (b.block _ (by simp;omega) (by simp;omega)),aRv (aSg _ _ _ (by simpa using c)),q _ _ (by simp)];simp
   have ah:=r0 0 (by omega);have ai:=r0 1 (by omega);have aj:=r0 2 (by omega);have ak:=r1 0;have al:=r1 1;have am:=r1 2;clear b hB r0 r1 m q e0;by_cases hlt:k<5
   ·by_cases hpk:p=bM k
    ·have hb:(p==bM (k:Int))=true:=by simp[hpk]
     have d:=xQ hpk;clear hpk;go_wp2;go_region_held3 (fun w'=>w'.cell? ⟨g,0,none⟩=some (str p)) (go_keep) ((go_at_call 114;refine(gW k _ (by omega)).mono ?_;rintro e w2 ⟨rfl,rfl⟩));all_goals go_wp2
     all_goals go_roundw
     all_goals first
      |(case rel=>exact⟨k+1,by omega,by go_num,by rw[xI d.out];exact aSe h.out _,rJ (kF HG.out) _ _⟩)
      |(case measure=>simp[intOf];omega)
    have hb:(p==bM (k:Int))=false:=by simp[hpk]
    have d:=xQ hpk;clear hpk;go_wp2;go_region_held3 (fun w'=>w'.cell? ⟨g,0,none⟩=some (str p)) (go_keep) ((go_at_call 114;refine(gW k _ (by omega)).mono ?_;rintro e w2 ⟨rfl,rfl⟩));all_goals go_wp2
    all_goals go_roundw
    all_goals first
     |(case rel=>exact⟨k+1,by omega,by go_num,by rw[aBp d.out];exact h.out,kF HG.out⟩)
     |(case measure=>simp[intOf];omega)
   obtain rfl:k=5:=by omega
   have ad:Ext w wr:=oG (h1' h1) HG (by omega);by_cases h0:l= []
   ·have hl:l.isEmpty=true:=by simp[h0]
    obtain rfl:none=o:=by have e:=HO.out;rwa[if_neg (by simp[h0])]at e
    clear h0;go_wp2;exact bodyPost_ret (v:=rdV none) (by simp[results,results120,go_sem, *];rfl) rfl ⟨rfl,xE⟩
   have hl:l.isEmpty=false:=by simp[h0]
   by_cases hh:t=l
   ·have ht:(t==l)=true:=by simp[hh]
    obtain rfl:some (jO p 5,0,0)=o:=by have e:=HO.out;rwa[if_pos ⟨h0,hh⟩]at e
    clear h0 hh;go_wp2_with fail;refine Z (HD _) fun w2 h2=>?_
    obtain⟨r,s⟩:=h2.cells;have f:(w1:Nat)<w2:=aPu (by first|omega|(simp;omega)) h2.sz;have y:(w:Nat)<w2:=aRn c f;have z:(w1:Nat)<wr:=by omega
    have aa:(w:Nat)<wr:=by omega
    go_wp2;exact bodyPost_ret (v:=rdV (some (_,0,0))) (by simp[results,results120,go_sem, *];rfl) rfl ⟨rfl,xE⟩
   have ht:(t==l)=false:=by simp[hh]
   obtain rfl:none=o:=by have e:=HO.out;rwa[if_neg (by simp[hh])]at e
   clear h0 hh;go_wp2_with fail;refine Z (HD _) fun w2 h2=>?_
   obtain⟨r,s⟩:=h2.cells;have f:(w1:Nat)<w2:=aPu (by first|omega|(simp;omega)) h2.sz;have y:(w:Nat)<w2:=aRn c f;have z:(w1:Nat)<wr:=by omega
   have aa:(w:Nat)<wr:=by omega
   go_wp2;exact bodyPost_ret (v:=rdV none) (by simp[results,results120,go_sem, *];rfl) rfl ⟨rfl,xE⟩
theorem aIn (l:List UInt8)(w:World)(ps:List (List UInt8))(n:Nat)(p q t:List UInt8)(a:Int)(hn:n=2)(ai:1≤n)(aj:n≤1099511627777)
  (y:ps[0]? =some p) (z:ps[1]? =some q)
  (HS:Hid (∀w,U 118 #[str l,.int .u8 32] w fun e w'=> ∃v,e= .returned v∧w'.ownsRow w 9 1 v n (gK ps)∧Ext w w'))
  (HR:Hid (∀w,U 119 #[str q] w fun e w'=>e= .returned (I a)∧w=w'))
  (HD:Hid (∀w,U 79 #[cF (jO p 5) a 0] w (O (str t) w))):
  U 120 #[str l] w (mC (if l≠ []∧t=l then some (jO p 5,a,0)else none) w):=by
  obtain⟨o,ho⟩: ∃o:Option (Int×Int×Int),(if l≠ []∧t=l then some (jO p 5,a,0)else none)=o:=⟨_,rfl⟩
  rw[ho];have HO:=xQ ho;clear ho;go_enter func120,ntmps120;go_wp2_with fail;refine(HS _).mono ?_;rintro e w1 ⟨v,rfl,b,h1⟩;obtain⟨g,af,rfl⟩:=aQk b (by omega);have e0:=bI b 0 (by omega) _ y;have e1:=bI b 1 (by omega) _ z;have hg:=(b.lt g rfl).2;have d:(w:Nat)<w1:=aPu (by simp) h1.sz;have ah:w.heap.size<g:=aPu (by simp) (b.lt g rfl).1;obtain⟨r,s⟩:=h1.cells;clear b;go_wp2;go_loopw [6] (fun i wr=> ∃k:Nat,k≤5∧i=I k∧wr.heap[w1.heap.size]? =some (.cells #[(jO p k:Int),(),()] 44 (0,0))∧(w1.alloc (.cells #[(-1:Int),(),()] 44)).grownBy wr (some w1)) (fun i _=>5-(intOf i).toNat)
  case atStart=>exact⟨0,by omega,rfl,by rw[heap_alloc_new];rfl,aRd _ _⟩
  case round=>
   obtain⟨k,hk,rfl,hB,c⟩:=hrel;have b0:wr.cell? ⟨w1,0,none⟩=some (I (jO p k)):=aRh hB 0;have b1:wr.cell? ⟨w1,1,none⟩=some (I 0):=aRh hB 1;have b2:wr.cell? ⟨w1,2,none⟩=some (I 0):=aRh hB 2;have u0:=aRa hB 0;have u1:=aRa hB 1;have u2:=aRa hB 2;have HG:=xQ c;have m:=xQ hB;have aa:=c.size;simp only[aSf]at aa;have g0:wr.cell? ⟨g,0,none⟩=some (str p):=c.cell (by rw[aR6 _ _ _ (by simpa using hg)];exact e0) (by simp;omega);have g1:wr.cell? ⟨g,1,none⟩=some (str q):=c.cell (by rw[aR6 _ _ _ (by simpa using hg)];exact e1) (by simp;omega);have r0: ∀j,j<3→wr.cell? ⟨w,j,none⟩=some (I 0):=fun j hj=>c.cell (by rw[aR6 _ _ _ (by simpa using d),r _ _ (by simp)];rcases(show j=0∨j=1∨j=2 by omega)with rfl|rfl|rfl<;>simp) (by simp;omega)
   have r1: ∀j,wr.frozen? ⟨w,j,none⟩=false:=fun j=>by rw[aRv (w:=w1.alloc (.cells #[(-1:Int),(),()] 44)) (c.block _ (by simp;omega) (by simp;omega)),aRv (aSg _ _ _ (by simpa using d)),s _ _ (by simp)];simp
   have ak:=r0 0 (by omega);have al:=r0 1 (by omega);have am:=r0 2 (by omega);have an:=r1 0;have ao:=r1 1;have ap:=r1 2;clear c hB r0 r1 r s e0;by_cases hlt:k<5
   ·by_cases hpk:p=bM k
    ·have hb:(p==bM (k:Int))=true:=by simp[hpk]
     have f:=xQ hpk;clear hpk;go_wp2;go_region_held3 (fun w'=>w'.cell? ⟨g,0,none⟩=some (str p)) (go_keep) ((go_at_call 114;refine(gW k _ (by omega)).mono ?_;rintro e w2 ⟨rfl,rfl⟩));all_goals go_wp2
     all_goals go_roundw
     all_goals first
      |(case rel=>exact⟨k+1,by omega,by go_num,by rw[xI f.out];exact aSe m.out _,rJ (kF HG.out) _ _⟩)
      |(case measure=>simp[intOf];omega)
    have hb:(p==bM (k:Int))=false:=by simp[hpk]
    have f:=xQ hpk;clear hpk;go_wp2;go_region_held3 (fun w'=>w'.cell? ⟨g,0,none⟩=some (str p)) (go_keep) ((go_at_call 114;refine(gW k _ (by omega)).mono ?_;rintro e w2 ⟨rfl,rfl⟩));all_goals go_wp2
    all_goals go_roundw
    all_goals first
     |(case rel=>exact⟨k+1,by omega,by go_num,by rw[aBp f.out];exact m.out,kF HG.out⟩)
     |(case measure=>simp[intOf];omega)
   obtain rfl:k=5:=by omega
   have ag:Ext w wr:=oG (h1' h1) HG (by omega);go_wp2_with fail;refine(HR _).mono ?_;rintro e w2 ⟨rfl,rfl⟩;by_cases h0:l= []
   ·have hl:l.isEmpty=true:=by simp[h0]
    obtain rfl:none=o:=by have e:=HO.out;rwa[if_neg (by simp[h0])]at e
    clear h0;go_wp2;exact bodyPost_ret (v:=rdV none) (by simp[results,results120,go_sem, *];rfl) rfl ⟨rfl,xE⟩
   have hl:l.isEmpty=false:=by simp[h0]
   by_cases hh:t=l
   ·have ht:(t==l)=true:=by simp[hh]
    obtain rfl:some (jO p 5,a,0)=o:=by have e:=HO.out;rwa[if_pos ⟨h0,hh⟩]at e
    clear h0 hh;go_wp2_with fail;refine Z (HD _) fun w2 h2=>?_
    obtain⟨u,x⟩:=h2.cells;have h:(w1:Nat)<w2:=aPu (by first|omega|(simp;omega)) h2.sz;have ab:(w:Nat)<w2:=aRn d h;have ad:(w1:Nat)<wr:=by omega
    have ae:(w:Nat)<wr:=by omega
    go_wp2;exact bodyPost_ret (v:=rdV (some (_,a,0))) (by simp[results,results120,go_sem, *];rfl) rfl ⟨rfl,xE⟩
   have ht:(t==l)=false:=by simp[hh]
   obtain rfl:none=o:=by have e:=HO.out;rwa[if_neg (by simp[hh])]at e
   clear h0 hh;go_wp2_with fail;refine Z (HD _) fun w2 h2=>?_
   obtain⟨u,x⟩:=h2.cells;have h:(w1:Nat)<w2:=aPu (by first|omega|(simp;omega)) h2.sz;have ab:(w:Nat)<w2:=aRn d h;have ad:(w1:Nat)<wr:=by omega
   have ae:(w:Nat)<wr:=by omega
   go_wp2;exact bodyPost_ret (v:=rdV none) (by simp[results,results120,go_sem, *];rfl) rfl ⟨rfl,xE⟩
theorem aIm (l:List UInt8)(w:World)(ps:List (List UInt8))(n:Nat)(p q r t:List UInt8)(a b:Int)(hn:3≤n)(am:1≤n)(an:n≤1099511627777)
  (ab:ps[0]? =some p) (ad:ps[1]? =some q) (ae:ps[2]? =some r)
  (HS:Hid (∀w,U 118 #[str l,.int .u8 32] w fun e w'=> ∃v,e= .returned v∧w'.ownsRow w 9 1 v n (gK ps)∧Ext w w'))
  (HR:Hid (∀w,U 119 #[str q] w fun e w'=>e= .returned (I a)∧w=w'))
  (y:Hid (∀w,U 119 #[str r] w fun e w'=>e= .returned (I b)∧w=w'))
  (HD:Hid (∀w,U 79 #[cF (jO p 5) a b] w (O (str t) w))):
  U 120 #[str l] w (mC (if l≠ []∧t=l then some (jO p 5,a,b)else none) w):=by
  obtain⟨o,ho⟩: ∃o:Option (Int×Int×Int),(if l≠ []∧t=l then some (jO p 5,a,b)else none)=o:=⟨_,rfl⟩
  rw[ho];have HO:=xQ ho;clear ho;go_enter func120,ntmps120;go_wp2_with fail;refine(HS _).mono ?_;rintro e w1 ⟨v,rfl,c,h1⟩;obtain⟨g,aj,rfl⟩:=aQk c (by omega);have ao:(0:Int)<(n:Int):=by omega
  have ap:0<n:=by omega
  have e0:=bI c 0 (by omega) _ ab;have e1:=bI c 1 (by omega) _ ad;have e2:=bI c 2 (by omega) _ ae;have hg:=(c.lt g rfl).2;have f:(w:Nat)<w1:=aPu (by simp) h1.sz;have al:w.heap.size<g:=aPu (by simp) (c.lt g rfl).1;obtain⟨u,x⟩:=h1.cells;clear c;go_wp2;go_loopw [6] (fun i wr=> ∃k:Nat,k≤5∧i=I k∧wr.heap[w1.heap.size]? =some (.cells #[(jO p k:Int),(),()] 44 (0,0))∧(w1.alloc (.cells #[(-1:Int),(),()] 44)).grownBy wr (some w1)) (fun i _=>5-(intOf i).toNat)
  case atStart=>exact⟨0,by omega,rfl,by rw[heap_alloc_new];rfl,aRd _ _⟩
  case round=>
   obtain⟨k,hk,rfl,hB,d⟩:=hrel;have b0:wr.cell? ⟨w1,0,none⟩=some (I (jO p k)):=aRh hB 0;have b1:wr.cell? ⟨w1,1,none⟩=some (I 0):=aRh hB 1;have b2:wr.cell? ⟨w1,2,none⟩=some (I 0):=aRh hB 2;have u0:=aRa hB 0;have u1:=aRa hB 1;have u2:=aRa hB 2;have HG:=xQ d;have s:=xQ hB;have af:=d.size;simp only[aSf]at af;have g0:wr.cell? ⟨g,0,none⟩=some (str p):=d.cell (by rw[aR6 _ _ _ (by simpa using hg)];exact e0) (by simp;omega);have g1:wr.cell? ⟨g,1,none⟩=some (str q):=d.cell (by rw[aR6 _ _ _ (by simpa using hg)];exact e1) (by simp;omega);have g2:wr.cell? ⟨g,2,none⟩=some (str r):=d.cell (by rw[aR6 _ _ _ (by simpa using hg)];exact e2) (by simp;omega);have r0: ∀j,j<3→wr.cell? ⟨w,j,none⟩=some (I 0):=fun j hj=>d.cell (by rw[aR6 _ _ _ (by simpa using f),u _ _ (by simp)];rcases(show j=0∨j=1∨j=2 by omega)with rfl|rfl|rfl<;>simp) (by simp;omega)
   have r1: ∀j,wr.frozen? ⟨w,j,none⟩=false:=fun j=>by rw[aRv (w:=w1.alloc (.cells #[(-1:Int),(),()] 44)) (d.block _ (by simp;omega) (by simp;omega)),aRv (aSg _ _ _ (by simpa using f)),x _ _ (by simp)];simp
   have aq:=r0 0 (by omega);have ar:=r0 1 (by omega);have au:=r0 2 (by omega);have av:=r1 0;have aw:=r1 1;have ax:=r1 2;clear d hB r0 r1 u x e0;by_cases hlt:k<5
   ·by_cases hpk:p=bM k
    ·have hb:(p==bM (k:Int))=true:=by simp[hpk]
     have h:=xQ hpk;clear hpk;go_wp2;go_region_held3 (fun w'=>w'.cell? ⟨g,0,none⟩=some (str p)) (go_keep) ((go_at_call 114;refine(gW k _ (by omega)).mono ?_;rintro e w2 ⟨rfl,rfl⟩));all_goals go_wp2
     all_goals go_roundw
     all_goals first
      |(case rel=>exact⟨k+1,by omega,by go_num,by rw[xI h.out];exact aSe s.out _,rJ (kF HG.out) _ _⟩)
      |(case measure=>simp[intOf];omega)
    have hb:(p==bM (k:Int))=false:=by simp[hpk]
    have h:=xQ hpk;clear hpk;go_wp2;go_region_held3 (fun w'=>w'.cell? ⟨g,0,none⟩=some (str p)) (go_keep) ((go_at_call 114;refine(gW k _ (by omega)).mono ?_;rintro e w2 ⟨rfl,rfl⟩));all_goals go_wp2
    all_goals go_roundw
    all_goals first
     |(case rel=>exact⟨k+1,by omega,by go_num,by rw[aBp h.out];exact s.out,kF HG.out⟩)
     |(case measure=>simp[intOf];omega)
   obtain rfl:k=5:=by omega
   have ak:Ext w wr:=oG (h1' h1) HG (by omega);go_wp2_with fail;refine(HR _).mono ?_;rintro e w2 ⟨rfl,rfl⟩;go_wp2_with fail;refine(y _).mono ?_;rintro e w2 ⟨rfl,rfl⟩;by_cases h0:l= []
   ·have hl:l.isEmpty=true:=by simp[h0]
    obtain rfl:none=o:=by have e:=HO.out;rwa[if_neg (by simp[h0])]at e
    clear h0;go_wp2;exact bodyPost_ret (v:=rdV none) (by simp[results,results120,go_sem, *];rfl) rfl ⟨rfl,xE⟩
   have hl:l.isEmpty=false:=by simp[h0]
   by_cases hh:t=l
   ·have ht:(t==l)=true:=by simp[hh]
    obtain rfl:some (jO p 5,a,b)=o:=by have e:=HO.out;rwa[if_pos ⟨h0,hh⟩]at e
    clear h0 hh;go_wp2_with fail;refine Z (HD _) fun w2 h2=>?_
    obtain⟨z,aa⟩:=h2.cells;have m:(w1:Nat)<w2:=aPu (by first|omega|(simp;omega)) h2.sz;have ag:(w:Nat)<w2:=aRn f m;have ah:(w1:Nat)<wr:=by omega
    have ai:(w:Nat)<wr:=by omega
    go_wp2;exact bodyPost_ret (v:=rdV (some (_,a,b))) (by simp[results,results120,go_sem, *];rfl) rfl ⟨rfl,xE⟩
   have ht:(t==l)=false:=by simp[hh]
   obtain rfl:none=o:=by have e:=HO.out;rwa[if_neg (by simp[hh])]at e
   clear h0 hh;go_wp2_with fail;refine Z (HD _) fun w2 h2=>?_
   obtain⟨z,aa⟩:=h2.cells;have m:(w1:Nat)<w2:=aPu (by first|omega|(simp;omega)) h2.sz;have ag:(w:Nat)<w2:=aRn f m;have ah:(w1:Nat)<wr:=by omega
   have ai:(w:Nat)<wr:=by omega
   go_wp2;exact bodyPost_ret (v:=rdV none) (by simp[results,results120,go_sem, *];rfl) rfl ⟨rfl,xE⟩
end
theorem xG (q:List UInt8)(hq:q.length≤maxLen)(w:World):U 119 #[str q] w fun e w'=>e= .returned (I ((dK 4 q).getD (-1)))∧w=w':=
 aGf ⟨q.toArray⟩ w (by simpa[ByteArray.size]using hq)
theorem nQ (l:List UInt8)(d:Int×Int×Int)(h:iY (cI 32 l)=d):lN l=if l≠ []∧aT d.1 d.2.1 d.2.2=l then some d else none:=by unfold lN;rw[h]
theorem aB0 (l:List UInt8)(w:World)(hs:l.length≤1099511627776):U 120 #[str l] w (mC (bS l) w):=by
 rw[←aCx]
 have hS: ∀w,U 118 #[str l,.int .u8 32] w fun e w'=> ∃v,e= .returned v∧w'.ownsRow w 9 1 v (cI 32 l).length (gK (cI 32 l))∧Ext w w':=
  fun w=>tZ ⟨l.toArray⟩ 32 32 rfl w (by simpa[ByteArray.size]using hs)
 have f:=yG 32 l;have d:(cI 32 l).length≤1099511627777:=by omega
 have c: ∀q∈cI 32 l,Hid (∀w,U 119 #[str q] w fun e w'=>e= .returned (I ((dK 4 q).getD (-1)))∧w=w'):=
  fun q hq w=>xG q (by have:=f.1 q hq;unfold maxLen;omega) w
 have hD: ∀k a b,Hid (∀w,U 79 #[cF k a b] w (O (str (aT k a b)) w)):=fun k a b w=>rX k a b w
 rcases hc:cI 32 l with _|⟨p,_|⟨q,_|⟨r,g⟩⟩⟩
 ·exact absurd hc (kI 32 l)
 ·rw[nQ l (jO p 5,0,0) (by rw[hc,uA];rfl)];rw[hc]at hS c;exact aIo l w [p] 1 p _ rfl (by omega) (by omega) rfl hS (hD _ _ _)
 ·rw[nQ l (jO p 5,(dK 4 q).getD (-1),0) (by rw[hc,uA];rfl)];rw[hc]at hS c;exact aIn l w [p,q] 2 p q _ _ rfl (by omega) (by omega) rfl rfl hS (c q (by simp)) (hD _ _ _)
 rw[nQ l (jO p 5,(dK 4 q).getD (-1),(dK 4 r).getD (-1)) (by rw[hc,uA];rfl)];rw[hc]at hS c d;exact aIm l w (p::q::r::g) _ p q r _ _ _ (by simp) (by simp) d rfl rfl rfl hS (c q (by simp)) (c r (by simp)) (hD _ _ _)
section
open Go.Proofs.Tryz
theorem aM0:(prog.info? 44).map (fun i=>(i.zero,i.size,i.bytes))=some (some (.agg #[(),(),()]),3,24):=by kernel_rfl
end
section
open Go.ChangeShapes Go.WideShapes Go.ChangeAt Go.Deep
def RdZ (w:World)(v:Value)(n sz:Nat)(cs:List Value):Prop:=
 (n=0∧cs= []∧ ∃p cap,v= .slice p 0 cap)∨(0<n∧ ∃b off cap,v= .slice (some ⟨b,off,none⟩) n cap∧b<w.heap.size∧Rd w v n sz cs)
theorem RdZ.ext {w w':World}{v:Value}{n sz:Nat}{cs:List Value}(h:RdZ w v n sz cs)(hx:Ext w w'):RdZ w' v n sz cs:=by
 rcases h with h|⟨h0,b,c,a,rfl,hb,h⟩
 ·exact .inl h
 exact .inr ⟨h0,b,c,a,rfl,aPu hb hx.sz,h.ext hx⟩
section
variable {H:Type} {enc:TypeId×Value→H} {w:World} {base:Nat} {spare:Nat→Bool} {held:Bool} {b0:Nat} {r:Reach} {v:Value} {d:DataW H} {p:List MemPlace}
end
end
section
open Go.Proofs.Tryz
theorem aNr {w:World}{base:Nat}{e:TypeId}{sz n:Nat}{v:Value}{xs:List Value}(hs:0<sz)(h:w.ownsRow base e sz v n xs):RdZ w v n sz xs:=by
 have a:=(show Own w base e sz v n xs from .inl h).rd;rcases h.2 with⟨rfl,rfl⟩|⟨g,cap,cur,rfl,hb,hg,hn,hm,hss,ht⟩
 ·exact .inl ⟨rfl,by have:=h.1;simpa using this,_,_,rfl⟩
 by_cases h0:n=0
 ·subst h0;exact .inl ⟨rfl,by have:=h.1;simpa using this,_,_,rfl⟩
 exact .inr ⟨by omega,g,0,cap,rfl,(aQu.1 hg).1,a⟩
theorem tK (first:Int)(p:OA)(a:Nat)(w:World):
  U 80 #[first,.slice p 0 a] w (O (str []) w):=by
 go_enter func80,ntmps80;go_wp2;go_rounds 1;go_ret;exact⟨rfl,xE⟩
theorem aCz (first:Int)(v:Value)(ds:List dZ)(w:World)(hB:B64 first)(h:RdZ w v ds.length 3 (ds.flatMap eM))(hn:ds.length≤1099511627776):
  U 80 #[first,v] w (O (str (eY first ds)) w):=by
 rcases h with⟨h0,hc,p,cap,rfl⟩|⟨h0,b,off,cap,rfl,hb,h⟩
 ·obtain rfl:ds= []:=aQj h0;exact tK first p cap w
 exact tL first ds b off _ cap w hB rfl hn hb h
def aEw (R k:Nat)(w:World)(e:Ending)(w':World):Prop:=
 ∃(h:aR) (p:OA) (cap:Nat) (q:OA) (c2:Nat) (b:ByteArray),e= .returned (.tuple #[bO h p h.cells.length cap q h.vs.length c2,.string b])∧h.cells.length≤13∧h.vs.length≤13∧b.size≤5000∧
  w'.ownsRow w.heap.size TI 1 (.slice p h.cells.length cap) h.cells.length (ivs h.cells)∧w'.ownsRow w.heap.size TV 4 (.slice q h.vs.length c2) h.vs.length (h.vs.flatMap aD)∧Rand w' R (k+30000)∧ExtR R w w'
def rS (w:World)(e:Ending)(w':World):Prop:=
 ∃(h:aR) (p:OA) (cap:Nat) (q:OA) (c2:Nat) (f:Int) (b:ByteArray),e= .returned (.tuple #[bO h p h.cells.length cap q h.vs.length c2,f,.string b])∧h.cells.length≤13∧h.vs.length≤13∧1≤f∧f≤2∧b.size≤5000∧IsHouse w' h p h.cells.length cap q h.vs.length c2∧Ext w w'
theorem aLq {R g B n sz:Nat}{e t:TypeId}{cs:Array Value}{w w':World}{v:Value}{xs:List Value}(ho:w.ownsRow B e sz v n xs)(hx:XS R g t cs w.drew w')(hB:R<B)(hg:g<B):w'.ownsRow B e sz v n xs:=
 kN ho (fun k hk=>hx.block k (aQm ho k hk).2 (by have:=(aQm ho k hk).1;omega) (by have:=(aQm ho k hk).1;omega))
theorem XS.new {R g:Nat}{t:TypeId}{cs:Array Value}{a c d:World}(h2:Ext a d)(k:XS R g t cs d.drew c)(hR:a.heap.size≤R)(hg:a.heap.size≤g):Ext a c:=
 ⟨k.os.trans h2.os,k.tape.trans h2.tape,k.output.trans h2.output,aQ4 h2.size k.size,fun i hi=>(k.block i (aPu hi h2.size) (by omega) (by omega)).trans (h2.block i hi)⟩
theorem aDe {R g k:Nat}{t:TypeId}{cs:Array Value}{w w':World}(h:Rand w R k)(hb:Blk w g t cs)(hx:ExtR g w w')(i:g≠R)(j: ∀x:Int,Value.int .u8 x∉cs):Rand w' R k:=by
 obtain⟨p,n,d,q,bs,h1,h2,h3,h4,h5,h6,h7⟩:=h;refine⟨p,n,d,q,bs,hx.blk h1 (fun e=>i e.symm),h2,h3,⟨h4.len,h4.le,h4.mx,fun h0=> ?_⟩,h5,h6,h7⟩;obtain⟨b,c,rfl,a,hc⟩:=h4.rd h0;have f:b≠g:=by
  rintro rfl;have h8:=hc 0 (by omega);rw[hb.cell (c+0)]at h8;have hl:=h4.len;cases bs with
  |nil=>simp at hl;omega
  |cons x bs=>simp at h8;exact j x (Array.mem_of_getElem? h8)
 exact⟨b,c,rfl,aPu a hx.sz,fun k hk=>(hx.cell _ a f).trans (hc k hk)⟩
theorem aBq (first:Int)(ds:List dZ):(eY first ds).length≤200*ds.length:=by
 unfold eY;cases h:jt first ds with
 |none=>simp
 |some x=>simpa using(aOk ds first x h).2
theorem aN3 (os:List Dd3)(a b c:Int):(os++ [(a,b,c)]).length=os.length+1∧(os++ [(a,b,c)]).flatMap cC=os.flatMap cC++cC (a,b,c):=by simp
theorem xD (R k:Nat)(n:Int)(w:World)(ba:Rand w R k)(hk:k≤900000)(bi:0≤n)(bj:n≤1000000):
  U 44 #[.pointer (some ⟨R,0,none⟩),n] w (aEw R k w):=by
 have hR:=ba.lt;go_enter func44,ntmps44;go_wp2_with fail;refine(aBm R k n _ (ba.ext xE) (by omega) bi bj).mono ?_;rintro e w1 ⟨h,p,d,q,c2,rfl,a5,a6,ho,hv,r1,x1⟩;have M1:=(((MemR.start R w hR).c0 aK zT).own2 x1 ho hv (by decide))
 clear ho hv x1 ba;go_wp2_with fail;refine(sN R (k+20000) h p d q c2 _ xN (by omega) ⟨by omega,by omega⟩ (lA (i:=2) (j:=3) ((M1.c0 aK (aSj h p d q c2)).made0 TDd 3 (w1.heap.size+1) (by simp)) rfl rfl) (nC (i:=2) ((M1.c0 aK (aSj h p d q c2)).made0 TDd 3 (w1.heap.size+1) (by simp)) rfl) (nC (i:=3) ((M1.c0 aK (aSj h p d q c2)).made0 TDd 3 (w1.heap.size+1) (by simp)) rfl)).mono ?_;rintro e w2 ⟨ds,lq,lc,rfl,hl,ho,r2,x2,_⟩;have M2:=(((M1.c0 aK (aSj h p d q c2)).made0 TDd 3 (w1.heap.size+1) (by simp)).callR x2 ho)
 clear ho x2 r1 M1;have a4:=M2.hi 2;obtain⟨gX,a8⟩: ∃a,a=w1.heap.size:=⟨_,rfl⟩
 obtain⟨go,a9⟩: ∃a,a=w1.heap.size+1:=⟨_,rfl⟩
 rw[←a8]at a9;rw[←a8]at M2 a4⊢;rw[←a9]at M2⊢;clear a8 a9;have MS:=(show MemR R w w2 [aJ w TDd 3 (some ⟨go,0,none⟩) (([]:List Dd3).length) (0) (([]:List Dd3).flatMap cC),aJ w TDd 3 (lq) (ds.length) (lc) (ds.flatMap cC),aI w (gX) aK (aSj h p d q c2),aSh w p h.cells d,aSi w q h.vs c2,aI w w aK #[(),(),((),()),(),(),(),(),(),(),((),())]]from M2.pick [1,0,2,3,4,5] (by decide) rfl)
 clear M2 a4;go_wp2;go_loopw [7,9] (fun o i wr=> ∃(os:List Dd3) (oq:OA) (oc j:Nat),o= .slice oq os oc∧i=I j∧j≤ds.length∧os.length≤j∧MemR R w wr [aJ w TDd 3 (oq) (os.length) (oc) (os.flatMap cC),aJ w TDd 3 (lq) (ds.length) (lc) (ds.flatMap cC),aI w (gX) aK (aSj h p d q c2),aSh w p h.cells d,aSi w q h.vs c2,aI w w aK #[(),(),((),()),(),(),(),(),(),(),((),())]]∧Rand wr R (k+25000)) (fun _ i _=>ds.length-(intOf i).toNat)
 case atStart=>exact⟨[],_,_,0,rfl,rfl,aQ1 _,aPv _,MS,r2.mono (by omega)⟩
 case round=>
  clear MS r2;obtain⟨os,oq,oc,j,rfl,rfl,hj,bp,hM,rr⟩:=hrel;have M5:=hM;clear hM;by_cases hlt:j<ds.length
  ·skip;obtain⟨b,br,a0,a1,a2,bh,hx,a7,e0,e1,e2⟩:=aCi (M5.sq 1) hlt;subst bh;clear hx;have i1:(0:Int)≤(j:Int):=by omega
   have i2:(j:Int)<(ds.length:Int):=by omega
   obtain⟨tx,be⟩: ∃t,aT a0 a1 a2=t:=⟨_,rfl⟩
   have HS:Hid (∀w,U 79 #[cF a0 a1 a2] w (O (str tx) w)):=fun w=>by rw[←be];exact rX _ _ _ w
   clear be;go_wp2_with fail;refine Z (HS _) fun w3 x3=>?_
   have r3:=rr.ext x3;have f0:=(x3.cells.1 _ _ a7).trans e0;have f1:=(x3.cells.1 _ _ a7).trans e1;have f2:=(x3.cells.1 _ _ a7).trans e2;have M6:=(M5.adv x3)
   clear rr x3 HS e0 e1 e2 M5;by_cases h0:tx= []
   ·skip;have bf:tx.isEmpty=true:=by simp[h0]
    clear h0;go_wp2;go_roundw
    case rel=>exact⟨os,oq,oc,j+1,rfl,by go_num,by omega,by omega,M6,r3⟩
    case measure=>first|(simp[intOf];done)|(simp[intOf];omega)
   skip;have bf:tx.isEmpty=false:=by simp[h0]
   clear h0;have bq:os.length≤11:=by omega
   go_wp2_with (at_builtin;refine kJ aPf rfl _ _ rfl (M6.adv ((Ext.refl _).alloc (.cells #[a0,a1,a2] TDd))) 0 rfl rfl (cC (a0,a1,a2)) rfl (dW _ _ _ 1 3 _ (by first|rfl|simp) (by first|rfl|simp) (by simp[maxLen])) (fun u hu=>aCj [(a0,a1,a2)] u (by simpa using hu)) (by omega) ?_;intro q7 c7 w7 bb bd;have r7:Rand w7 R (k+25000):=bd _ xN);have M7:=bb;clear bb bd f0 f1 f2;go_wp2;go_roundw
   case rel=>have e7:=aN3 os a0 a1 a2;refine⟨os++ [(a0,a1,a2)],q7,c7,j+1,by rw[e7.1],by go_num,by omega,by rw[e7.1];omega,?_,r7⟩;rw[e7.1,e7.2];exact M7
   case measure=>first|(simp[intOf];done)|(simp[intOf];omega)
  skip;obtain⟨x,hx⟩: ∃t,t=eY 1 os:=⟨_,rfl⟩
  have bl:x.length≤2400:=by rw[hx];have:=aBq 1 os;omega
  obtain⟨bt,bc,bg⟩: ∃b:ByteArray,str x= .string b∧b.size=x.length:=⟨_,rfl,aLw _⟩
  have HJ:=xQ (aCz 1 (.slice oq os oc) os wr (by unfold B64;omega) (aNr (by omega) (M5.ow 0)) (by omega));rw[←hx,bc]at HJ;have bo:bt.size≤2400:=by omega
  clear hx bl bc bg;go_wp2_with fail;refine HJ.out.mono ?_;rintro e w3 ⟨rfl,x3⟩;have r3:=rr.ext x3;have M6:=(M5.adv x3)
  clear rr x3 HJ M5;go_wp2_with fail;refine(bZ R (k+25000) 4 _ r3 (by omega)).mono ?_;rintro e w4 ⟨c,rfl,ca,cb,r4,x4⟩;clear r3;have M7:=(M6.pickd x4)
  clear x4 M6;have bm:R<w:=hR;rcases(show c=0∨c=1∨c=2∨c=3 by omega)with rfl|rfl|rfl|rfl
  ·skip;go_wp2_with fail;refine(zC R (k+25000+1) bt _ r4 (by omega) (by omega)).mono ?_;rintro e w5 ⟨z,rfl,hz,r5,x5⟩;clear r4;have M8:=(M7.pickd x5)
   clear x5 M7;obtain⟨af,ag,ah,ai,aj,ak,al,am,an,ao⟩:=(M8.bk 2).ten;obtain⟨ap,g,aq,l,ar,m,au,r,av,s,aw,y,ax,aa,ay,ab,az,ad,a3,ae⟩:=(M8.bk 5).tenf;go_wp2;clear af ag ah ai aj ak al am an ao ap g aq l ar m au r av s aw y ax aa ay ab az ad a3 ae;have r9:Rand ((((((((((w5.setCell ⟨w,0,none⟩ (I h.aA)).setCell ⟨w,1,none⟩ (I h.aB)).setCell ⟨w,2,none⟩ (.slice p h.cells d)).setCell ⟨w,3,none⟩ (I h.free)).setCell ⟨w,4,none⟩ (I h.step)).setCell ⟨w,5,none⟩ (I h.aE)).setCell ⟨w,6,none⟩ (I h.aF)).setCell ⟨w,7,none⟩ (I h.aC)).setCell ⟨w,8,none⟩ (I h.aG)).setCell ⟨w,9,none⟩ (.slice q h.vs c2)) R (k+30000):=by have:=r5.mono (show _≤k+30000 by omega);exact xN
   have M9:=(M8.put10 (i:=5) rfl (I h.aA) (I h.aB) (.slice p h.cells d) (I h.free) (I h.step) (I h.aE) (I h.aF) (I h.aC) (I h.aG) (.slice q h.vs c2))
   generalize f:World.setCell _ _ _=w9;rw[f]at M9 r9;clear f M8;obtain⟨y0,y1,y2,y3,y4,y5,y6,y7,y8,y9⟩:=(M9.bk 5).ten;exact bodyPost_ret (v:= .tuple #[.agg #[h.aA,h.aB,.slice p h.cells d,h.free,h.step,h.aE,h.aF,h.aC,h.aG,.slice q h.vs c2],.string z]) (by simp[results,results44,go_sem, *]) rfl ⟨h,p,d,q,c2,z,rfl,a5,a6,(by omega),(M9.ow 3),(M9.ow 4),r9,M9.ext⟩
  ·skip;go_wp2_with fail;refine(bZ R (k+25000+1) ((bt.size:Int)+1) _ r4 (by omega)).mono ?_;rintro e w5 ⟨jc,rfl,ja,jb,r5,x5⟩;clear r4;obtain⟨jn,rfl⟩:=aQi ja;have i1:jn≤bt.size:=by omega
   have i2:(jn:Int)≤(bt.size:Int):=by omega
   have M8:=(M7.pickd x5)
   clear x5 M7;obtain⟨af,ag,ah,ai,aj,ak,al,am,an,ao⟩:=(M8.bk 2).ten;obtain⟨ap,g,aq,l,ar,m,au,r,av,s,aw,y,ax,aa,ay,ab,az,ad,a3,ae⟩:=(M8.bk 5).tenf;go_wp2;clear af ag ah ai aj ak al am an ao ap g aq l ar m au r av s aw y ax aa ay ab az ad a3 ae;have r9:Rand ((((((((((w5.setCell ⟨w,0,none⟩ (I h.aA)).setCell ⟨w,1,none⟩ (I h.aB)).setCell ⟨w,2,none⟩ (.slice p h.cells d)).setCell ⟨w,3,none⟩ (I h.free)).setCell ⟨w,4,none⟩ (I h.step)).setCell ⟨w,5,none⟩ (I h.aE)).setCell ⟨w,6,none⟩ (I h.aF)).setCell ⟨w,7,none⟩ (I h.aC)).setCell ⟨w,8,none⟩ (I h.aG)).setCell ⟨w,9,none⟩ (.slice q h.vs c2)) R (k+30000):=by have:=r5.mono (show _≤k+30000 by omega);exact xN
   have M9:=(M8.put10 (i:=5) rfl (I h.aA) (I h.aB) (.slice p h.cells d) (I h.free) (I h.step) (I h.aE) (I h.aF) (I h.aC) (I h.aG) (.slice q h.vs c2))
   generalize f:World.setCell _ _ _=w9;rw[f]at M9 r9;clear f M8;obtain⟨y0,y1,y2,y3,y4,y5,y6,y7,y8,y9⟩:=(M9.bk 5).ten;exact bodyPost_ret (v:= .tuple #[.agg #[h.aA,h.aB,.slice p h.cells d,h.free,h.step,h.aE,h.aF,h.aC,h.aG,.slice q h.vs c2],.string (bt.extract 0 jn)]) (by simp[results,results44,go_sem, *]) rfl ⟨h,p,d,q,c2,(bt.extract 0 jn),rfl,a5,a6,(by simp[ByteArray.size_extract];omega),(M9.ow 3),(M9.ow 4),r9,M9.ext⟩
  ·skip;obtain⟨af,ag,ah,ai,aj,ak,al,am,an,ao⟩:=(M7.bk 2).ten;obtain⟨ap,g,aq,l,ar,m,au,r,av,s,aw,y,ax,aa,ay,ab,az,ad,a3,ae⟩:=(M7.bk 5).tenf;go_wp2;clear af ag ah ai aj ak al am an ao ap g aq l ar m au r av s aw y ax aa ay ab az ad a3 ae;have r9:Rand ((((((((((w4.setCell ⟨w,0,none⟩ (I h.aA)).setCell ⟨w,1,none⟩ (I h.aB)).setCell ⟨w,2,none⟩ (.slice p h.cells d)).setCell ⟨w,3,none⟩ (I h.free)).setCell ⟨w,4,none⟩ (I h.step)).setCell ⟨w,5,none⟩ (I h.aE)).setCell ⟨w,6,none⟩ (I h.aF)).setCell ⟨w,7,none⟩ (I h.aC)).setCell ⟨w,8,none⟩ (I h.aG)).setCell ⟨w,9,none⟩ (.slice q h.vs c2)) R (k+30000):=by have:=r4.mono (show _≤k+30000 by omega);exact xN
   have M8:=(M7.put10 (i:=5) rfl (I h.aA) (I h.aB) (.slice p h.cells d) (I h.free) (I h.step) (I h.aE) (I h.aF) (I h.aC) (I h.aG) (.slice q h.vs c2))
   generalize f:World.setCell _ _ _=w9;rw[f]at M8 r9;clear f M7;obtain⟨y0,y1,y2,y3,y4,y5,y6,y7,y8,y9⟩:=(M8.bk 5).ten;exact bodyPost_ret (v:= .tuple #[.agg #[h.aA,h.aB,.slice p h.cells d,h.free,h.step,h.aE,h.aF,h.aC,h.aG,.slice q h.vs c2],.string bt]) (by simp[results,results44,go_sem, *]) rfl ⟨h,p,d,q,c2,bt,rfl,a5,a6,(by omega),(M8.ow 3),(M8.ow 4),r9,M8.ext⟩
  skip;obtain⟨af,ag,ah,ai,aj,ak,al,am,an,ao⟩:=(M7.bk 2).ten;obtain⟨ap,g,aq,l,ar,m,au,r,av,s,aw,y,ax,aa,ay,ab,az,ad,a3,ae⟩:=(M7.bk 5).tenf;go_wp2;clear af ag ah ai aj ak al am an ao ap g aq l ar m au r av s aw y ax aa ay ab az ad a3 ae;have r9:Rand ((((((((((w4.setCell ⟨w,0,none⟩ (I h.aA)).setCell ⟨w,1,none⟩ (I h.aB)).setCell ⟨w,2,none⟩ (.slice p h.cells d)).setCell ⟨w,3,none⟩ (I h.free)).setCell ⟨w,4,none⟩ (I h.step)).setCell ⟨w,5,none⟩ (I h.aE)).setCell ⟨w,6,none⟩ (I h.aF)).setCell ⟨w,7,none⟩ (I h.aC)).setCell ⟨w,8,none⟩ (I h.aG)).setCell ⟨w,9,none⟩ (.slice q h.vs c2)) R (k+30000):=by have:=r4.mono (show _≤k+30000 by omega);exact xN
  have M8:=(M7.put10 (i:=5) rfl (I h.aA) (I h.aB) (.slice p h.cells d) (I h.free) (I h.step) (I h.aE) (I h.aF) (I h.aC) (I h.aG) (.slice q h.vs c2))
  generalize f:World.setCell _ _ _=w9;rw[f]at M8 r9;clear f M7;obtain⟨y0,y1,y2,y3,y4,y5,y6,y7,y8,y9⟩:=(M8.bk 5).ten;exact bodyPost_ret (v:= .tuple #[.agg #[h.aA,h.aB,.slice p h.cells d,h.free,h.step,h.aE,h.aF,h.aC,h.aG,.slice q h.vs c2],.string bt]) (by simp[results,results44,go_sem, *]) rfl ⟨h,p,d,q,c2,bt,rfl,a5,a6,(by omega),(M8.ow 3),(M8.ow 4),r9,M8.ext⟩
theorem aH8 (v:Value)(w:World)(hc:Code w v):U 17 #[v] w (rS w):=by
 go_enter func17,ntmps17;go_wp2_with fail;refine(aDn v _ (hc.ext xE)).mono ?_;rintro e w1 ⟨R,rfl,hR,r1,x1⟩;have a2:w.heap.size<R:=by have:=hR;simp at this;omega
 have hR:=r1.lt;have M1:=(((Mem.start w).c0 aK zT).adv x1)
 have t:=M1.hi 0;clear x1;go_wp2_with fail;refine(xD R 0 9 _ r1 (by omega) (by omega) (by omega)).mono ?_;rintro e w2 ⟨h,p,c,q,c2,b,rfl,r,s,o,ho,hv,r2,x2⟩;have M2:=(show MemR R w1 w2 [aSh w1 p h.cells c,aSi w1 q h.vs c2]from(MemR.start R w1 hR).own2 x2 ho hv (by decide))
 have z2:=x2.sz;clear ho hv x2;go_upto_region 3 with fail;have r3:Rand (w2.alloc (.cells #[h.aA,h.aB,.slice p h.cells c,h.free,h.step,h.aE,h.aF,h.aC,h.aG,.slice q h.vs c2] aK)) R 30000:=by first|(exact xN)|exact(r2.alloc _).mono (by omega)
 have M3:=(M2.c0 aK (aSj h p c q c2))
 generalize i:(w2.alloc (.cells #[h.aA,h.aB,.slice p h.cells c,h.free,h.step,h.aE,h.aF,h.aC,h.aG,.slice q h.vs c2] aK))=w3;rw[i]at M3 r3;clear i r2 r1 M2;have ap:R<w2:=by omega
 have X3:=xQ (ExtR.new M1.ext M3.ext (by omega));have B0:=xQ (M3.bk 0);have BH:=xQ (M3.ext.blk (M1.bk 0) (by omega));refine oU (gl [gEq (.agg #[h.aA,h.aB,.slice p h.cells c,h.free,h.step,h.aE,h.aF,h.aC,h.aG,.slice q h.vs c2]),gEq (.pointer (some ⟨R,0,none⟩)),aH1 (12),(fun v _=> ∃a:Int,v=I a∧0≤a∧a≤1),(fun v _=> ∃a:Int,v=I a∧1≤a∧a≤2),gEq (.string b),(fun _ w'=>Blk w' w aK #[h.aA,h.aB,.slice p h.cells c,h.free,h.step,h.aE,h.aF,h.aC,h.aG,.slice q h.vs c2]),(fun v _=> ∃a:Int,v=I a∧1≤a∧a≤2),gEq (.string b)]) (XS R w aK #[h.aA,h.aB,.slice p h.cells c,h.free,h.step,h.aE,h.aF,h.aC,h.aG,.slice q h.vs c2]) R (30000) 1 9 (by kernel_rfl) rfl (by kernel_rfl) (by kernel_rfl) (by kernel_rfl) r3 (fun w=>XS.refl _ _ _ _ w) (fun _ _ _=>XS.trans) (xY (dB (jF _) (dB (jF _) (dB (fun _ _ _ h _=>h) (dB (fun _ _ _ h _=>h) (dB (fun _ _ _ h _=>h) (dB (jF _) (dB (fun _ _ _ h hx=>hx.blk h) (dB (fun _ _ _ h _=>h) (dB (jF _) (aCa))))))))))) rfl (k:=9) (by kernel_rfl) (by decide) (ls:= [(0,some 15),(1,some 16),(2,some 17),(3,some 18),(4,some 19),(5,some 20),(6,none),(7,some 3),(8,some 4)]) (by kernel_rfl) (ir:= [0,1,2,3,4,5,6,7,8]) (by kernel_rfl) ?steps (tl:=#[true,true,true,true,true,true,true,true,true]) (by kernel_rfl) ?fin
 case steps=>
  refine sCx [] rfl (fun wi kk hx hr hkk=> ?_) ?_
  ·intro K hK;obtain⟨aq,ar,au,av,aw,ax,ay,az,a0,a1⟩:=(hx.other B0 (by omega) (by omega)).ten;go_simp;exact hK _ _ ⟨.agg #[h.aA,h.aB,.slice p h.cells c,h.free,h.step,h.aE,h.aF,h.aC,h.aG,.slice q h.vs c2],rfl,rfl,⟨XS.refl _ _ _ _ _,hr.mono (by omega)⟩⟩
  refine sCx [] rfl (fun wi kk hx hr hkk=> ?_) ?_
  ·intro K hK;go_simp;exact hK _ _ ⟨.pointer (some ⟨R,0,none⟩),rfl,rfl,⟨XS.refl _ _ _ _ _,hr.mono (by omega)⟩⟩
  refine sCx [(1,some 16)] rfl (fun wi kk hx hr hkk=> ?_) ?_
  ·intro v1 h1 K hK;obtain rfl:=h1;go_wp2_with fail;refine(bZ R kk 12 _ hr (by omega)).mono ?_;rintro e w5 ⟨x,rfl,xa,xb,r5,x5⟩;go_simp;exact hK _ _ ⟨I x,rfl,⟨x,rfl,xa,by omega⟩,⟨XS.ofR (by omega) x5,r5⟩⟩
  refine sCx [(2,some 17)] rfl (fun wi kk hx hr hkk=> ?_) ?_
  ·intro v2 h2 K hK;obtain⟨x2,rfl,j,ab⟩:=h2;have g:0≤x2/11∧x2/11≤1:=by omega
   have a3:x2.tdiv 11=x2/11:=Int.tdiv_eq_ediv_of_nonneg j;have a4:IntKind.i64.wrap (x2/11)=x2/11:=aPx _ (by omega);go_simp;exact hK _ _ ⟨I (x2/11),rfl,⟨_,rfl,g.1,g.2⟩,⟨XS.refl _ _ _ _ _,hr.mono (by omega)⟩⟩
  refine sCx [(3,some 18)] rfl (fun wi kk hx hr hkk=> ?_) ?_
  ·intro v3 h3 K hK;obtain⟨x3,rfl,z,ad⟩:=h3;have hw:IntKind.i64.wrap (1+x3)=1+x3:=aPx _ (by omega);go_simp;exact hK _ _ ⟨I (1+x3),rfl,⟨_,rfl,by omega,by omega⟩,⟨XS.refl _ _ _ _ _,hr.mono (by omega)⟩⟩
  refine sCx [] rfl (fun wi kk hx hr hkk=> ?_) ?_
  ·intro K hK;go_simp;exact hK _ _ ⟨.string b,rfl,rfl,⟨XS.refl _ _ _ _ _,hr.mono (by omega)⟩⟩
  refine sCx [(0,some 15)] rfl (fun wi kk hx hr hkk=> ?_) ?_
  ·intro v0 h0 K hK;obtain rfl:=h0;rcases hx.either BH.out with BZ|BZ
   ·skip;obtain⟨z0,af,z1,ag,z2,ah,z3,ai,z4,aj,z5,ak,z6,al,z7,am,z8,an,z9,ao⟩:=BZ.tenf;go_simp;generalize f:World.setCell _ _ _=w9;obtain⟨Y9,d⟩:=BZ.putr f;have r9:Rand w9 R kk:=aDe hr BZ d (by omega) (fun x hx=>by simp at hx);exact hK _ _ ⟨undef,rfl,Y9,⟨XS.ofPut d Y9,r9.mono (by omega)⟩⟩
   skip;obtain⟨z0,af,z1,ag,z2,ah,z3,ai,z4,aj,z5,ak,z6,al,z7,am,z8,an,z9,ao⟩:=BZ.tenf;go_simp;generalize f:World.setCell _ _ _=w9;obtain⟨Y9,d⟩:=BZ.putr f;have r9:Rand w9 R kk:=aDe hr BZ d (by omega) (fun x hx=>by simp at hx);exact hK _ _ ⟨undef,rfl,Y9,⟨XS.ofPut d Y9,r9.mono (by omega)⟩⟩
  refine sCx [(4,some 19)] rfl (fun wi kk hx hr hkk=> ?_) ?_
  ·intro v4 h4 K hK;obtain⟨x4,rfl,l,m⟩:=h4;go_simp;exact hK _ _ ⟨_,rfl,⟨_,rfl,l,m⟩,⟨XS.refl _ _ _ _ _,hr.mono (by omega)⟩⟩
  refine sCx [(5,some 20)] rfl (fun wi kk hx hr hkk=> ?_) StepsLX.nil
  ·intro v5 h5 K hK;obtain rfl:=h5;go_simp;exact hK _ _ ⟨.string b,rfl,rfl,⟨XS.refl _ _ _ _ _,hr.mono (by omega)⟩⟩
 case fin=>
  intro wi hx hr v0 h0 v1 h1 v2 h2 v3 h3 v4 h4 v5 h5 v6 h6 v7 h7 v8 h8;subst h0 h1;obtain⟨x2,rfl,j,ab⟩:=h2;obtain⟨x3,rfl,z,ad⟩:=h3;obtain⟨x4,rfl,l,m⟩:=h4;obtain rfl:=h5;have n:=h6;obtain⟨x7,rfl,aa,ae⟩:=h7;obtain rfl:=h8;have u:=aLq (M3.ow 1) hx (by omega) (by omega);have y:=aLq (M3.ow 2) hx (by omega) (by omega);have X9:=XS.new X3 hx (by omega) (aPv _);clear B0 BH hx X3 r3 hr M3 M1;refine wpAny_done (by kernel_rfl) ?_ _;try go_frame
  go_wp2;obtain⟨y0,y1,y2,y3,y4,y5,y6,y7,y8,y9⟩:=n.ten;exact bodyPost_ret (v:= .tuple #[.agg #[h.aA,h.aB,.slice p h.cells c,h.free,h.step,h.aE,h.aF,h.aC,h.aG,.slice q h.vs c2],x7,.string b]) (by simp[results,results17,go_sem, *]) rfl ⟨h,p,c,q,c2,x7,b,rfl,r,s,aa,ae,o,⟨Sl.own u,Sl.own y⟩,X9⟩
end
end Go.Proofs.YtbgkcehffiogcaaGreatDoor
