/-
  Texts of this proof, packed (@packed).
-/
import Derived.Test.YtomgkjinhnkpnaaGreatDoorX26
namespace Go.Proofs.YtomgkjinhnkpnaaGreatDoor
open Go.RowKit Go.Proofs.Tryz
set_option linter.unusedSimpArgs false
set_option linter.unusedVariables false
set_option maxHeartbeats 8000000
set_option maxRecDepth 100000
theorem aNv (aA aB c d A:Int)(p:OA)(n a:Nat)(w:World)(HV:xB 37 #[aH aA aB p n a] w true)(HF:Hid (∀w',U 132 #[aH aA aB p n a,c] w' (O (.bool true) w')))(HT:Hid (∀w',U 132 #[aH aA aB p n a,d] w' (O (.bool true) w')))
  (HA:Hid (∀w',U 133 #[aA,c,d] w' (O (I A) w'))):
  U 195 #[aH aA aB p n a,c,d] w (O (I A) w):=by
 go_enter func195,ntmps195;go_wp2_with fail;refine Z (HV _ ((Mem.start w).c0 TH3 #[aA,aB,.slice p n a]).ext) fun w1 b=>?_
 have M1:=(((Mem.start w).c0 TH3 #[aA,aB,.slice p n a]).adv b)
 clear b;have h_:=(M1.bk 0).tri;go_wp2_with fail;clear h_;refine Z (HF _) fun w2 f=>?_
 have M2:=(M1.adv f)
 clear M1 f;have h_:=(M2.bk 0).tri;go_wp2_with fail;clear h_;refine Z (HT _) fun w3 g=>?_
 have M3:=(M2.adv g)
 clear M2 g;have h_:=(M3.bk 0).tri;go_wp2_with fail;clear h_;refine Z (HA _) fun w4 h=>?_
 have M4:=(M3.adv h)
 clear M3 h;go_wp2;go_ret;exact⟨rfl,M4.ext⟩
theorem aKt (aA aB f t:Int)(p:OA)(n a:Nat)(w:World)(HV:xB 37 #[aH aA aB p n a] w true)(HF:Hid (∀w',U 132 #[aH aA aB p n a,f] w' (O (.bool false) w'))):
  U 95 #[aH aA aB p n a,eD f t] w (O (.bool false) w):=by
 go_enter func95,ntmps95;go_wp2_with fail;refine Z (HV _ (((Mem.start w).c0 TH3 #[aA,aB,.slice p n a]).c1 TSL #[f,t]).ext) fun w1 b=>?_
 have M1:=((((Mem.start w).c0 TH3 #[aA,aB,.slice p n a]).c1 TSL #[f,t]).adv b)
 clear b;have h_:=(M1.bk 1).tri;have s0:=(M1.bk 0).cl 0;have s1:=(M1.bk 0).cl 1;go_wp2_with fail;clear h_ s0 s1;refine Z (HF _) fun w2 c=>?_
 have M2:=(M1.adv c)
 clear M1 c;have h_:=(M2.bk 1).tri;have s0:=(M2.bk 0).cl 0;have s1:=(M2.bk 0).cl 1;go_wp2;go_ret;exact⟨rfl,M2.ext⟩
theorem aKs (aA aB f t:Int)(p:OA)(n a:Nat)(w:World)(HV:xB 37 #[aH aA aB p n a] w true)(HF:Hid (∀w',U 132 #[aH aA aB p n a,f] w' (O (.bool true) w')))(HT:Hid (∀w',U 132 #[aH aA aB p n a,t] w' (O (.bool false) w'))):
  U 95 #[aH aA aB p n a,eD f t] w (O (.bool false) w):=by
 go_enter func95,ntmps95;go_wp2_with fail;refine Z (HV _ (((Mem.start w).c0 TH3 #[aA,aB,.slice p n a]).c1 TSL #[f,t]).ext) fun w1 b=>?_
 have M1:=((((Mem.start w).c0 TH3 #[aA,aB,.slice p n a]).c1 TSL #[f,t]).adv b)
 clear b;have h_:=(M1.bk 1).tri;have s0:=(M1.bk 0).cl 0;have s1:=(M1.bk 0).cl 1;go_wp2_with fail;clear h_ s0 s1;refine Z (HF _) fun w2 c=>?_
 have M2:=(M1.adv c)
 clear M1 c;have h_:=(M2.bk 1).tri;have s0:=(M2.bk 0).cl 0;have s1:=(M2.bk 0).cl 1;go_wp2_with fail;clear h_ s0 s1;refine Z (HT _) fun w3 d=>?_
 have M3:=(M2.adv d)
 clear M2 d;have h_:=(M3.bk 1).tri;have s0:=(M3.bk 0).cl 0;have s1:=(M3.bk 0).cl 1;go_wp2;go_ret;exact⟨rfl,M3.ext⟩
theorem aKr (aA aB:Int)(b a n c i j:Nat)(x y:Int)(w:World)(hi:i<n)(hj:j<n)(hb:b<w.heap.size)(h:Hid (w.cell? ⟨b,a+i,none⟩=some (I x)))(k:Hid (w.cell? ⟨b,a+j,none⟩=some (I y)))(d1:(x !=0)=false)(HV:xB 37 #[aH aA aB (some ⟨b,a,none⟩) n c] w true)(HF:Hid (∀w',U 132 #[aH aA aB (some ⟨b,a,none⟩) n c,i] w' (O (.bool true) w')))(HT:Hid (∀w',U 132 #[aH aA aB (some ⟨b,a,none⟩) n c,j] w' (O (.bool true) w'))):
  U 95 #[aH aA aB (some ⟨b,a,none⟩) n c,eD (i:Int) (j:Int)] w (O (.bool false) w):=by
 have a1:(0:Int)≤(i:Int):=by omega
 have a3:(i:Int)<(n:Int):=by omega
 go_enter func95,ntmps95;go_wp2_with fail;refine Z (HV _ (((Mem.start w).c0 TH3 #[aA,aB,.slice (some ⟨b,a,none⟩) n c]).c1 TSL #[i,j]).ext) fun w1 d=>?_
 have M1:=((((Mem.start w).c0 TH3 #[aA,aB,.slice (some ⟨b,a,none⟩) n c]).c1 TSL #[i,j]).adv d)
 clear d;have h_:=(M1.bk 1).tri;have s0:=(M1.bk 0).cl 0;have s1:=(M1.bk 0).cl 1;go_wp2_with fail;clear h_ s0 s1;refine Z (HF _) fun w2 f=>?_
 have M2:=(M1.adv f)
 clear M1 f;have h_:=(M2.bk 1).tri;have s0:=(M2.bk 0).cl 0;have s1:=(M2.bk 0).cl 1;go_wp2_with fail;clear h_ s0 s1;refine Z (HT _) fun w3 g=>?_
 have M3:=(M2.adv g)
 clear M2 g;have h_:=(M3.bk 1).tri;have s0:=(M3.bk 0).cl 0;have s1:=(M3.bk 0).cl 1;have g1:w3.cell? ⟨b,a+i,none⟩=some (I x):=(M3.ext.cells.1 _ _ hb).trans h.out;go_wp2;go_ret;exact⟨rfl,M3.ext⟩
theorem aKq (aA aB:Int)(b a n c i j:Nat)(x y:Int)(w:World)(hi:i<n)(hj:j<n)(hb:b<w.heap.size)(h:Hid (w.cell? ⟨b,a+i,none⟩=some (I x)))(k:Hid (w.cell? ⟨b,a+j,none⟩=some (I y)))(d1:(x !=0)=true)(d2:(y==0)=false)(HV:xB 37 #[aH aA aB (some ⟨b,a,none⟩) n c] w true)(HF:Hid (∀w',U 132 #[aH aA aB (some ⟨b,a,none⟩) n c,i] w' (O (.bool true) w')))(HT:Hid (∀w',U 132 #[aH aA aB (some ⟨b,a,none⟩) n c,j] w' (O (.bool true) w'))):
  U 95 #[aH aA aB (some ⟨b,a,none⟩) n c,eD (i:Int) (j:Int)] w (O (.bool false) w):=by
 have a1:(0:Int)≤(i:Int):=by omega
 have a2:(0:Int)≤(j:Int):=by omega
 have a3:(i:Int)<(n:Int):=by omega
 have a4:(j:Int)<(n:Int):=by omega
 go_enter func95,ntmps95;go_wp2_with fail;refine Z (HV _ (((Mem.start w).c0 TH3 #[aA,aB,.slice (some ⟨b,a,none⟩) n c]).c1 TSL #[i,j]).ext) fun w1 d=>?_
 have M1:=((((Mem.start w).c0 TH3 #[aA,aB,.slice (some ⟨b,a,none⟩) n c]).c1 TSL #[i,j]).adv d)
 clear d;have h_:=(M1.bk 1).tri;have s0:=(M1.bk 0).cl 0;have s1:=(M1.bk 0).cl 1;go_wp2_with fail;clear h_ s0 s1;refine Z (HF _) fun w2 f=>?_
 have M2:=(M1.adv f)
 clear M1 f;have h_:=(M2.bk 1).tri;have s0:=(M2.bk 0).cl 0;have s1:=(M2.bk 0).cl 1;go_wp2_with fail;clear h_ s0 s1;refine Z (HT _) fun w3 g=>?_
 have M3:=(M2.adv g)
 clear M2 g;have h_:=(M3.bk 1).tri;have s0:=(M3.bk 0).cl 0;have s1:=(M3.bk 0).cl 1;have g1:w3.cell? ⟨b,a+i,none⟩=some (I x):=(M3.ext.cells.1 _ _ hb).trans h.out;have g2:w3.cell? ⟨b,a+j,none⟩=some (I y):=(M3.ext.cells.1 _ _ hb).trans k.out;go_wp2;go_ret;exact⟨rfl,M3.ext⟩
theorem aNi (aA aB:Int)(b a n c i j:Nat)(x y A:Int)(w:World)(hi:i<n)(hj:j<n)(hb:b<w.heap.size)(k:Hid (w.cell? ⟨b,a+i,none⟩=some (I x)))(l:Hid (w.cell? ⟨b,a+j,none⟩=some (I y)))(d1:(x !=0)=true)(d2:(y==0)=true)(HV:xB 37 #[aH aA aB (some ⟨b,a,none⟩) n c] w true)(HF:Hid (∀w',U 132 #[aH aA aB (some ⟨b,a,none⟩) n c,i] w' (O (.bool true) w')))(HT:Hid (∀w',U 132 #[aH aA aB (some ⟨b,a,none⟩) n c,j] w' (O (.bool true) w')))(HA:Hid (∀w',U 133 #[aA,i,j] w' (O (I A) w'))):
  U 95 #[aH aA aB (some ⟨b,a,none⟩) n c,eD (i:Int) (j:Int)] w (O (.bool (A==1)) w):=by
 have a1:(0:Int)≤(i:Int):=by omega
 have a2:(0:Int)≤(j:Int):=by omega
 have a3:(i:Int)<(n:Int):=by omega
 have a4:(j:Int)<(n:Int):=by omega
 go_enter func95,ntmps95;go_wp2_with fail;refine Z (HV _ (((Mem.start w).c0 TH3 #[aA,aB,.slice (some ⟨b,a,none⟩) n c]).c1 TSL #[i,j]).ext) fun w1 d=>?_
 have M1:=((((Mem.start w).c0 TH3 #[aA,aB,.slice (some ⟨b,a,none⟩) n c]).c1 TSL #[i,j]).adv d)
 clear d;have h_:=(M1.bk 1).tri;have s0:=(M1.bk 0).cl 0;have s1:=(M1.bk 0).cl 1;go_wp2_with fail;clear h_ s0 s1;refine Z (HF _) fun w2 f=>?_
 have M2:=(M1.adv f)
 clear M1 f;have h_:=(M2.bk 1).tri;have s0:=(M2.bk 0).cl 0;have s1:=(M2.bk 0).cl 1;go_wp2_with fail;clear h_ s0 s1;refine Z (HT _) fun w3 g=>?_
 have M3:=(M2.adv g)
 clear M2 g;have h_:=(M3.bk 1).tri;have s0:=(M3.bk 0).cl 0;have s1:=(M3.bk 0).cl 1;have g1:w3.cell? ⟨b,a+i,none⟩=some (I x):=(M3.ext.cells.1 _ _ hb).trans k.out;have g2:w3.cell? ⟨b,a+j,none⟩=some (I y):=(M3.ext.cells.1 _ _ hb).trans l.out;go_wp2_with fail;clear h_ s0 s1 g1 g2;refine Z (HA _) fun w4 h=>?_
 have M4:=(M3.adv h)
 clear M3 h;go_wp2;go_ret;exact⟨rfl,M4.ext⟩
theorem aQo (aA aB:Int)(c d:Nat)(p:OA)(n a:Nat)(xs:List Int)(w:World)(hS:Sl w p n a 1 (ivs xs))(b:aN aA aB xs=true)(hc:c<n)(hd:d<n):
  U 195 #[aH aA aB p n a,c,d] w (O (I (aW aA c d)) w):=by
 have hl:=hS.ilen;obtain⟨g1,g2,g3,g4,g5,g6,g7,g8,g9⟩:=bO b;have HH: ∀(k:Nat),k<n→ ∀w',U 132 #[aH aA aB p n a,k] w' (O (.bool true) w'):=fun k hk w'=>by have:=jM aA aB k p n a w' (by omega);rwa[decide_eq_true (⟨by omega,by omega⟩:0≤(k:Int)∧(k:Int)<n)]at this
 exact aNv aA aB c d _ p n a w (fun w' hx=>by have:=gM aA aB p n a xs w' (hS.ext hx);rwa[b]at this) (HH c hc) (HH d hd) (fun w'=>nA aA c d w' (by omega) (by omega) (by omega) (by omega) (by omega) (by omega))
theorem aQh (aA aB f t:Int)(p:OA)(n a:Nat)(xs:List Int)(w:World)(hS:Sl w p n a 1 (ivs xs))(g:aN aA aB xs=true):
  U 95 #[aH aA aB p n a,eD f t] w (O (.bool (bC aA aB xs f t)) w):=by
 have hl:=hS.ilen;obtain⟨g1,g2,g3,g4,g5,g6,g7,g8,g9⟩:=bO g;have HV: ∀w',Ext w w'→U 37 #[aH aA aB p n a] w' (O (.bool true) w'):=fun w' hx=>by have:=gM aA aB p n a xs w' (hS.ext hx);rwa[g]at this
 have HH: ∀(c:Int) w',U 132 #[aH aA aB p n a,c] w' (O (.bool (decide (0≤c∧c<n))) w'):=fun c w'=>jM aA aB c p n a w' (by omega)
 by_cases hf:0≤f∧f<n
 ·have HF:=HH f;rw[decide_eq_true hf]at HF;by_cases ht:0≤t∧t<n
  ·have HT:=HH t;rw[decide_eq_true ht]at HT;obtain⟨i,rfl⟩: ∃i:Nat,f=(i:Int):=⟨f.toNat,by omega⟩
   obtain⟨j,rfl⟩: ∃j:Nat,t=(j:Int):=⟨t.toNat,by omega⟩
   have hi:i<n:=by omega
   have hj:j<n:=by omega
   obtain⟨b,d,rfl,hb,m⟩:=hS.rd (by omega);have o:xs[i]? =some (xs.getD i 0):=by rw[aRl,aRh (by omega)];rfl
   have q:xs[j]? =some (xs.getD j 0):=by rw[aRl,aRh (by omega)];rfl
   have k:w.cell? ⟨b,d+i,none⟩=some (I (xs.getD i 0)):=by rw[m i (by omega)];simp only[ivs,aRy,o,aSh]
   have l:w.cell? ⟨b,d+j,none⟩=some (I (xs.getD j 0)):=by rw[m j (by omega)];simp only[ivs,aRy,q,aSh]
   have s:0≤xs.getD i 0:=pV g i;have r:dN aA aB xs (i:Int) (j:Int)=aW aA i j:=by unfold dN;rw[if_pos ⟨g,⟨by omega,by omega⟩,by omega,by omega⟩]
   unfold bC;rw[r,aTd,aTd];clear o q;generalize xs.getD i 0=x at*;generalize xs.getD j 0=y at*;by_cases hx0:x=0
   ·subst hx0;rw[show(decide (aW aA (i:Int) j=1)&&decide (0<(0:Int))&&decide (y=0))=false by simp];exact aKr aA aB b d n a i j _ _ w hi hj hb k l (by simp) HV HF HT
   have d1:(x !=0)=true:=by simp[hx0]
   by_cases hy0:y=0
   ·subst hy0;rw[show(decide (aW aA (i:Int) j=1)&&decide (0<x)&&decide ((0:Int)=0))=(aW aA (i:Int) j==1) by rw[decide_eq_true (show 0<x by omega)];by_cases ha:aW aA (i:Int) j=1<;>simp[ha]];exact aNi aA aB b d n a i j _ _ _ w hi hj hb k l d1 (by simp) HV HF HT (fun w'=>nA aA i j w' (by omega) (by omega) (by omega) (by omega) (by omega) (by omega))
   rw[show(decide (aW aA (i:Int) j=1)&&decide (0<x)&&decide (y=0))=false by simp[hy0]];exact aKq aA aB b d n a i j _ _ w hi hj hb k l d1 (by simp[hy0]) HV HF HT
  have HT:=HH t;rw[decide_eq_false ht]at HT
  rw[show bC aA aB xs f t=false by
   cases h:bC aA aB xs f t with
   |false=>rfl
   |true=>
    unfold bC at h;simp only[aRr,decide_eq_true_eq]at h
    have:=kA h.1.1;omega]
  exact aKs aA aB f t p n a w HV HF HT
 have HF:=HH f;rw[decide_eq_false hf]at HF
 rw[show bC aA aB xs f t=false by
  cases h:bC aA aB xs f t with
  |false=>rfl
  |true=>
   unfold bC at h;simp only[aRr,decide_eq_true_eq]at h
   have:=kA h.1.1;omega]
 exact aKt aA aB f t p n a w HV HF
theorem aI6 (q:OA)(m c2:Nat)(xs:List Int)(w:World)(hm:m≤1000)(hS:Sl w q m c2 1 (ivs xs)):
  U 98 #[.slice q m c2] w fun e w'=> ∃q' c',e= .returned (.slice q' m c')∧w'.ownsRow w TI 1 (.slice q' m c') m (ivs xs)∧Ext w w':=by
 cases q with
 |none=>
  have h0:m=0:=by
   by_cases h:0<m
   ·obtain⟨b,g,e,_⟩:=hS.rd h;cases e
   omega
  subst h0;have d:ivs xs= []:=aSi (by have:=hS.len;simpa using this);have f: ∀(w:World) (a:OA) (n c n' c':Nat),(binOp .eql 23 (.slice a n c) (.slice none n' c')).run prog w= .ok (.bool a.isNone) w:=fun w a n c n' c'=>Lib.run_eql_slice_nil w _ _ a n c n' c' underlying23
  clear hS;go_enter func98,ntmps98;go_wp2;go_ret;exact⟨none,0,rfl,by rw[d];exact aRw _ _ _ _,Ext.refl _⟩
 |some a=>
  have HS:=xQ hS;have MS:=((Mem.start w).made0 TI 1 w (by simp))
  have f: ∀(w:World) (a:OA) (n c n' c':Nat),(binOp .eql 23 (.slice a n c) (.slice none n' c')).run prog w= .ok (.bool a.isNone) w:=fun w a n c n' c'=>Lib.run_eql_slice_nil w _ _ a n c n' c' underlying23
  clear hS;go_enter func98,ntmps98;go_wp2_with (at_builtin;go_loud (refine cK fU rfl _ _ rfl MS 0 rfl rfl (ivs xs) rfl (HS.out.ext ((Ext.refl _).alloc _)) (qW xs) (by omega) ?_;intro q7 c7 w6 M6));have M7:=(show Mem w w6 [aJ w TI 1 q7 m c7 (ivs xs)]from by simpa using M6)
  clear M6;go_wp2;go_ret;exact⟨q7,c7,rfl,M7.ow 0,M7.ext⟩
theorem mD (aA aB:Int)(p:OA)(n a:Nat)(xs:List Int)(w:World)(hn:n≤1000)(hS:Sl w p n a 1 (ivs xs)):
  U 54 #[aH aA aB p n a] w (dH aA aB xs w):=by
 have hl:=xQ hS.ilen;have HS:=xQ hS;clear hS;have HK:xC 98 #[.slice p n a] w fun w' e w''=> ∃q' c',e= .returned (.slice q' n c')∧w''.ownsRow w' TI 1 (.slice q' n c') n (ivs xs)∧Ext w' w'':=fun w' hx=>aI6 p n a xs w' hn (HS.out.ext hx)
 go_enter func54,ntmps54;go_wp2;have ME:=(((Mem.start w).c0 TH3 #[aA,aB,.slice p n a]).c1 TH3 #[(),(),((),())])
 refine rL (gl [gEq (.pointer (some ⟨w,0,none⟩)),gEq aA,gEq (.pointer (some ⟨w,1,none⟩)),gEq aB,gEq (.pointer (some ⟨w,2,none⟩)),gEq (.slice p n a),(fun v w'=> ∃q c,v= .slice q n c∧w'.ownsRow (w.heap.size+2) TI 1 (.slice q n c) n (ivs xs)),(fun v w'=> ∃q c,v=aH aA aB q n c∧w'.ownsRow (w.heap.size+2) TI 1 (.slice q n c) n (ivs xs))]) 8 9 [(0,some 3),(1,some 4),(2,some 5),(3,some 6),(4,some 7),(5,some 8),(6,some 9),(7,some 10)] ?steps ?fin (hG:=(mU (bM (bR _) (bM (bR _) (bM (bR _) (bM (bR _) (bM (bR _) (bM (bR _) (bM (fun v w w' ⟨q,c,he,ho⟩ hx=>⟨q,c,he,bI ho hx⟩) (bM (fun v w w' ⟨q,c,he,ho⟩ hx=>⟨q,c,he,bI ho hx⟩) (pX)))))))))))
 case steps=>
  refine sS0 [] ?_;refine sC [(0,some 3)] rfl (fun wi hx=> ?_) ?_
  ·intro v0 h0 K hK;obtain rfl:=h0;have hX:Ext ((w.alloc (.cells #[aA,aB,.slice p n a] TH3)).alloc (.cells #[(),(),((),())] TH3)) wi:=xE;have d:=((ME.bk 1).ext hX).cl 0;go_simp;exact hK _ _ ⟨I aA,rfl,rfl,Ext.refl _⟩
  refine sS0 [] ?_;refine sC [(2,some 5)] rfl (fun wi hx=> ?_) ?_
  ·intro v2 h2 K hK;obtain rfl:=h2;have hX:Ext ((w.alloc (.cells #[aA,aB,.slice p n a] TH3)).alloc (.cells #[(),(),((),())] TH3)) wi:=xE;have d:=((ME.bk 1).ext hX).cl 1;go_simp;exact hK _ _ ⟨I aB,rfl,rfl,Ext.refl _⟩
  refine sS0 [] ?_;refine sC [(4,some 7)] rfl (fun wi hx=> ?_) ?_
  ·intro v4 h4 K hK;obtain rfl:=h4;have hX:Ext ((w.alloc (.cells #[aA,aB,.slice p n a] TH3)).alloc (.cells #[(),(),((),())] TH3)) wi:=xE;have d:=((ME.bk 1).ext hX).cl 2;go_simp;exact hK _ _ ⟨.slice p n a,rfl,rfl,Ext.refl _⟩
  refine sC [(5,some 8)] rfl (fun wi hx=> ?_) ?_
  ·intro v5 h5 K hK;obtain rfl:=h5;go_wp2_with fail;refine(HK _ (ME.ext.trans hx.of_drew)).mono ?_;rintro e w5 ⟨q5,c5,rfl,o5,h⟩;go_simp;exact hK _ _ ⟨.slice q5 n c5,rfl,⟨q5,c5,rfl,bJ o5 (by have:=hx.sz;simp at this;omega)⟩,h⟩
  refine sC [(1,some 4),(3,some 6),(6,some 9)] rfl (fun wi hx=> ?_) StepsL.nil
  ·intro v1 h1 v3 h3 v6 h6 K hK;subst h1 h3;obtain⟨q6,c6,rfl,b⟩:=h6;go_simp;exact hK _ _ ⟨aH aA aB q6 n c6,rfl,⟨q6,c6,rfl,b⟩,Ext.refl _⟩
 case fin=>
  intro wi hx v0 h0 v1 h1 v2 h2 v3 h3 v4 h4 v5 h5 v6 h6 v7 h7;subst h0 h1 h2 h3 h4 h5;obtain⟨q6,c6,rfl,b⟩:=h6;obtain⟨q7,c7,rfl,f⟩:=h7;have hX:Ext ((w.alloc (.cells #[aA,aB,.slice p n a] TH3)).alloc (.cells #[(),(),((),())] TH3)) wi:=hx.of_drew;have M2:=(show Mem w wi [aJ w TI 1 (q7) (n) (c7) (ivs xs),aI w (w.heap.size+1) TH3 #[(),(),((),())],aI w w TH3 #[aA,aB,.slice p n a]]from ME.ownNew hX f (by simp))
  clear ME hx hX b f HK HS;try go_frame
  have z_:=(M2.bk 1).trif;refine wpAny_ready (rs:= [8]) (by kernel_rfl) (by simp) ?_;refine AllReady.cons rfl (fun K hK=> ?_) AllReady.nil;go_simp;refine hK _ _ ?_;clear hK K;refine wpAny_done (by kernel_rfl) ?_ _;try go_frame
  have M3:=((M2.st 1 0 (I aA)).st 1 1 (I aB))
  have M4:=(M3.st 1 2 (.slice q7 n c7))
  go_wp2;have M5:=(show Mem w (((wi.setCell ⟨w.heap.size+1,0,none⟩ (I aA)).setCell ⟨w.heap.size+1,1,none⟩ (I aB)).setCell ⟨w.heap.size+1,2,none⟩ (.slice q7 n c7)) [aJ w TI 1 (q7) (n) (c7) (ivs xs),aI w (w.heap.size+1) TH3 #[aA,aB,.slice q7 n c7],aI w w TH3 #[aA,aB,.slice p n a]]from M4)
  generalize g:World.setCell _ _ _=wz;rw[g]at M5;clear g M2 M3 M4 z_;have y_:=(M5.bk 1).tri;exact bodyPost_ret (v:=aH aA aB q7 n c7) (by simp[results,results54,go_sem, *]) rfl (sR hl.out (M5.ow 0) M5.ext)
theorem aI5 (q:OA)(m c2:Nat)(xs:List Value)(w:World)(hm:m≤1000)(hS:Sl w q m c2 4 xs)(h1: ∀u∈xs,u.oneCell'=true):
  U 55 #[.slice q m c2] w fun e w'=> ∃q' c',e= .returned (.slice q' m c')∧w'.ownsRow w TV 4 (.slice q' m c') m xs∧Ext w w':=by
 cases q with
 |none=>
  have h0:m=0:=by
   by_cases h:0<m
   ·obtain⟨b,f,e,_⟩:=hS.rd h;cases e
   omega
  subst h0;obtain rfl:xs= []:=aSi (by have:=hS.len;simpa using this);have d: ∀(w:World) (a:OA) (n c n' c':Nat),(binOp .eql 28 (.slice a n c) (.slice none n' c')).run prog w= .ok (.bool a.isNone) w:=fun w a n c n' c'=>Lib.run_eql_slice_nil w _ _ a n c n' c' underlying28
  clear hS;go_enter func55,ntmps55;go_wp2;go_ret;exact⟨none,0,rfl,aRw _ _ _ _,Ext.refl _⟩
 |some a=>
  have HS:=xQ hS;have HO:=xQ h1;have MS:=((Mem.start w).made0 TV 4 w (by simp))
  have d: ∀(w:World) (a:OA) (n c n' c':Nat),(binOp .eql 28 (.slice a n c) (.slice none n' c')).run prog w= .ok (.bool a.isNone) w:=fun w a n c n' c'=>Lib.run_eql_slice_nil w _ _ a n c n' c' underlying28
  clear hS h1;go_enter func55,ntmps55;go_wp2_with (at_builtin;go_loud (refine cK uS rfl _ _ rfl MS 0 rfl rfl xs rfl (HS.out.ext ((Ext.refl _).alloc _)) HO (by omega) ?_;intro q7 c7 w6 M6));have M7:=(show Mem w w6 [aJ w TV 4 q7 m c7 xs]from by simpa using M6)
  clear M6;go_wp2;go_ret;exact⟨q7,c7,rfl,M7.ow 0,M7.ext⟩
theorem aL3 (aA aB a b aD aF aC aG:Int)(p:OA)(n d:Nat)(q:OA)(m c2:Nat)(xs:List Int)(vs:List aQ)(w:World)
  (HL:xC 54 #[aH aA aB p n d] w fun w' e w''=> ∃q c,e= .returned (aH aA aB q n c)∧w''.ownsRow w' TI 1 (.slice q n c) n (ivs xs)∧Ext w' w'')
  (o:xC 55 #[.slice q m c2] w fun w' e w''=> ∃q' c',e= .returned (.slice q' m c')∧w''.ownsRow w' TV 4 (.slice q' m c') m (vs.flatMap aE)∧Ext w' w''):
  U 19 #[.agg #[aA,aB,.slice p n d,a,b,aD,aF,aC,aG,.slice q m c2]] w fun e w'=> ∃p' cap' q' c2',e= .returned (.agg #[aA,aB,.slice p' n cap',a,b,aD,aF,aC,aG,.slice q' m c2'])∧w'.ownsRow w TI 1 (.slice p' n cap') n (ivs xs)∧w'.ownsRow w TV 4 (.slice q' m c2') m (vs.flatMap aE)∧Ext w w':=by
 go_enter func19,ntmps19;go_wp2_with fail;refine(HL _ ((((Mem.start w).c0 aK #[aA,aB,.slice p n d,a,b,aD,aF,aC,aG,.slice q m c2]).c1 aK zT).c2 aK #[aA,aB,.slice p n d,a,b,aD,aF,aC,aG,.slice q m c2]).ext).mono ?_;rintro e w1 ⟨q0,c0,rfl,f,j⟩;have M1:=(((((Mem.start w).c0 aK #[aA,aB,.slice p n d,a,b,aD,aF,aC,aG,.slice q m c2]).c1 aK zT).c2 aK #[aA,aB,.slice p n d,a,b,aD,aF,aC,aG,.slice q m c2]).call j f)
 clear j f;have c9:=(M1.bk 3).cl 9;have d0:=(M1.bk 1).cl 0;have r:=(M1.bk 1).frozen 0;have d1:=(M1.bk 1).cl 1;have s:=(M1.bk 1).frozen 1;have d2:=(M1.bk 1).cl 2;have t:=(M1.bk 1).frozen 2;go_wp2_with fail;clear c9 d0 r d1 s d2 t;refine(o _ (((M1.store (i:=1) rfl 0 (I aA)).store (i:=1) rfl 1 (I aB)).store (i:=1) rfl 2 (.slice q0 n c0)).ext).mono ?_;rintro e w2 ⟨q7,c7,rfl,g,k⟩;have M2:=((((M1.st 1 0 (I aA)).st 1 1 (I aB)).st 1 2 (.slice q0 n c0)).call k g)
 clear M1 k g;have x_:=(M2.bk 2).ten;have u:=(M2.bk 2).cl 9;have l:=(M2.bk 2).frozen 9;obtain⟨y0,x,y1,y,y2,z,y3,aa,y4,ab,y5,ad,y6,ae,y7,af,y8,ag,y9,ah⟩:=(M2.bk 3).tenf;go_wp2;clear x_ u l y0 x y1 y y2 z y3 aa y4 ab y5 ad y6 ae y7 af y8 ag y9 ah;have M3:=(show Mem w (((((((((((w2.setCell ⟨w.heap.size+1+1,9,none⟩ (.slice q7 m c7)).setCell ⟨w.heap.size+1,0,none⟩ (I aA)).setCell ⟨w.heap.size+1,1,none⟩ (I aB)).setCell ⟨w.heap.size+1,2,none⟩ (.slice q0 n c0)).setCell ⟨w.heap.size+1,3,none⟩ (I a)).setCell ⟨w.heap.size+1,4,none⟩ (I b)).setCell ⟨w.heap.size+1,5,none⟩ (I aD)).setCell ⟨w.heap.size+1,6,none⟩ (I aF)).setCell ⟨w.heap.size+1,7,none⟩ (I aC)).setCell ⟨w.heap.size+1,8,none⟩ (I aG)).setCell ⟨w.heap.size+1,9,none⟩ (.slice q7 m c7)) [aJ w TV 4 (q7) (m) (c7) (vs.flatMap aE),aJ w TI 1 (q0) (n) (c0) (ivs xs),aI w (w.heap.size+1+1) aK #[aA,aB,.slice q0 n c0,a,b,aD,aF,aC,aG,.slice q7 m c7],aI w (w.heap.size+1) aK #[aA,aB,.slice q0 n c0,a,b,aD,aF,aC,aG,.slice q7 m c7],aI w w aK #[aA,aB,.slice p n d,a,b,aD,aF,aC,aG,.slice q m c2]]from((M2.store (i:=2) rfl 9 (.slice q7 m c7)).put10 (i:=3) rfl (I aA) (I aB) (.slice q0 n c0) (I a) (I b) (I aD) (I aF) (I aC) (I aG) (.slice q7 m c7)))
 generalize h:World.setCell _ _ _=wz;rw[h]at M3;clear h M2;obtain⟨y0,y1,y2,y3,y4,y5,y6,y7,y8,y9⟩:=(M3.bk 3).ten;exact bodyPost_ret (v:= .agg #[aA,aB,.slice q0 n c0,a,b,aD,aF,aC,aG,.slice q7 m c7]) (by simp[results,results19,go_sem, *]) rfl ⟨q0,c0,q7,c7,rfl,(M3.ow 1),(M3.ow 0),M3.ext⟩
theorem nD (h:aM)(p:OA)(n a:Nat)(q:OA)(m c2:Nat)(w:World)(hn:n≤1000)(hm:m≤1000)(hi:IsHouse w h p n a q m c2):
  U 19 #[bG h p n a q m c2] w (RetHouse h w):=by
 have hl:=hi.clen;have f:=hi.vlen;refine(aL3 h.aA h.aB h.free h.step h.aD h.aF h.aC h.aG p n a q m c2 h.cells h.vs w (xQ fun w' hx=> ?_) (xQ fun w' hx=>aI5 q m c2 _ w' hm (hi.vs.ext hx) (eZ _))).mono ?_
 ·refine(mD h.aA h.aB p n a h.cells w' hn (hi.cells.ext hx)).mono ?_;rintro e i ⟨q,c,rfl,ho,g⟩;rw[hl]at ho⊢;exact⟨q,c,rfl,ho,g⟩
 rintro e w' ⟨p',b,q',d,rfl,h1,h2,h3⟩;subst hl f;exact⟨p',b,q',d,rfl,h1,h2,h3⟩
theorem pI: ∀(k:Nat) (vs:List aQ),(vs.flatMap aE).take (k*4)=(vs.take k).flatMap aE
 |0,vs=>by simp
 |k+1,[]=>by simp
 |k+1,v::vs=>by rw[aSm,show(k+1)*4=(aE v).length+k*4 by simp[aE];omega,List.take_length_add_append,pI k vs];rfl
theorem aPl {W0 wr:World}{B:Nat}(hg:W0.grownBy wr (some B))(o:Nat)(v:Value):W0.grownBy (wr.setCell ⟨B,o,none⟩ v) (some B):=
 ⟨hg.os,hg.tape,hg.output,by simpa using hg.size,fun k hk hne=>by rw[aTw _ _ _ _ (fun e=>hne (by simp[e]))];exact hg.block k hk hne⟩
theorem vE {α:Type}: ∀(xs:List α) (k:Nat) (v:α),k<xs.length→(xs.set k v).take (k+1)=xs.take k++ [v]
 | [],_,_,h=>by simp at h
 |x::xs,0,v,_=>by simp
 |x::xs,k+1,v,h=>by simp only[aRt,List.take_succ_cons,vE xs k v (by simpa using h)];rfl
theorem vT {α:Type}: ∀(xs:List α) (k j:Nat) (v:α),k<j→(xs.set k v).drop j=xs.drop j
 | [],_,_,_,_=>by simp
 |x::xs,0,j+1,v,_=>by simp
 |x::xs,k+1,j+1,v,h=>by simp only[aRt,List.drop_succ_cons];exact vT xs k j v (by omega)
theorem gI {B n c sz g:Nat}{e:TypeId}: ∀(vs:List Value) (k:Nat) (xs:List Value) (w:World),w.ownsRow B e sz (.slice (some ⟨g,0,none⟩) n c) n xs→k+vs.length≤xs.length→
  (w.setCells g k vs).ownsRow B e sz (.slice (some ⟨g,0,none⟩) n c) n (xs.take k++vs++xs.drop (k+vs.length))∧w.grownBy (w.setCells g k vs) (some g)
 | [],k,xs,w,h,_=>by refine⟨?_,aT1 _ _⟩;simpa[World.setCells]using h
 |v::vs,k,xs,w,h,hl=>by simp only[aSr]at hl;obtain⟨h1,h2⟩:=gI vs (k+1) (xs.set k v) _ (h.stored k v).1 (by simp;omega);rw[vE xs k v (by omega),vT xs k _ v (by omega)]at h1;refine⟨?_,(aPl (aT1 _ _) k v).trans h2⟩;rw[aSr,show k+(vs.length+1)=k+1+vs.length by omega];simpa[World.setCells]using h1
theorem aP7 {w:World}{B n c sz k:Nat}{e:TypeId}{q:OA}{xs:List Value}(h:w.ownsRow B e sz (.slice q n c) n xs)(hk:k≤n)(h0:0<n):w.ownsRow B e sz (.slice q k c) k (xs.take (k*sz)):=by
 have hm:=aT5 sz hk;refine⟨by rw[aS7,h.1];omega,?_⟩;rcases h.2 with⟨_,h3⟩|⟨g,cap',cur,e1,hb,hg,hn,hmx,hs,ht⟩
 ·omega
 injection e1 with e1 e2 e3;subst e1 e3;refine .inr ⟨g,c,cur,rfl,hb,hg,by omega,hmx,hs,?_⟩;rw[←ht,List.take_take,Nat.min_eq_left hm]
theorem aFr (w:World):(zeroValue TV).run prog w= .ok (.agg #[(),(),(),()]) w:=by simp[Tryz.zeroValue55]
theorem aFi (w:World)(ty:TypeId)(b o c:Nat)(hc: ∀j,j<4→(w.cell? ⟨b,o+j,none⟩).isSome=true)(hf: ∀j,j<4→w.frozen? ⟨b,o+j,none⟩=false):
  (Builtin.clear_ #[28] ty #[.slice (some ⟨b,o,none⟩) 1 c]).run prog w= .ok (.tuple #[]) (w.setCells b o [I 0,I 0,I 0,I 0]):=by
 have d:(Builtin.zeroCells (Value.agg #[(),(),(),()]).cells 1).toList= [I 0,I 0,I 0,I 0]:=by kernel_rfl
 have a:=run_storeCells_cells (P:=prog) b o [I 0,I 0,I 0,I 0] 0 w (by simpa using hc) (by simpa using hf) (by intro v hv;simp at hv;subst hv;rfl);simp only[Nat.add_zero]at a;simp[Builtin.clear_,run_underlying underlying28,aFr,d,a]
theorem aFb (bs:List aQ)(i n:Nat)(hn:bs.length=n)(hi:i<n):
  ((bs.flatMap aE).take (i*4)++(bs.drop (i+1)).flatMap aE++(bs.flatMap aE).drop (i*4+((bs.drop (i+1)).flatMap aE).length)).take ((n-1)*4)=(bs.eraseIdx i).flatMap aE:=by
 have h1:((bs.take i).flatMap aE).length=i*4:=by rw[cX aE 4 (fun _=>rfl),aS7];congr 1;omega
 have h2:((bs.drop (i+1)).flatMap aE).length=(n-1-i)*4:=by rw[cX aE 4 (fun _=>rfl),aT4];congr 1;omega
 rw[pI,aTe (by rw[aRm,h1,h2,←Nat.add_mul];exact aT5 4 (by omega)),aRn (by rw[aRm,h1,h2,←Nat.add_mul];exact aT5 4 (by omega)),←aS8,List.eraseIdx_eq_take_drop_succ]
theorem aOk (g n c B i j:Nat)(bs:List aQ)(w:World)(hn:n≤1000)(hi:i<n)(hj:Hid (j=i+1))(hO:w.ownsRow B TV 4 (.slice (some ⟨g,0,none⟩) n c) n (bs.flatMap aE)):
  U 94 #[.slice (some ⟨g,0,none⟩) n c,i,j] w fun e w'=>e= .returned (.slice (some ⟨g,0,none⟩) (n-1) c)∧w'.ownsRow B TV 4 (.slice (some ⟨g,0,none⟩) (n-1) c) (n-1) ((bs.eraseIdx i).flatMap aE)∧w.grownBy w' (some g):=by
 obtain⟨i0,y,al,z,am⟩:=info_parts (show(prog.info? TV).map (fun i=>(i.zero,i.size,i.bytes))=some (some (.agg #[(),(),(),()]),4,32) by kernel_rfl);have d:w.drew.ownsRow B TV 4 (.slice (some ⟨g,0,none⟩) n c) n (bs.flatMap aE):=bI hO (Ext.drew (Ext.refl _));have l:bs.length=n:=by have:=hO.1;rw[cX aE 4 (fun _=>rfl)]at this;omega
 have aa:n≤c:=by
  rcases hO.2 with⟨_,h3⟩|⟨g',cap',cur,e1,hb,hg,hn',_⟩
  ·omega
  injection e1 with e1 e2 e3;omega
 have m:j=i+1:=hj.out;obtain⟨news,a⟩: ∃news,news=(bs.drop (i+1)).flatMap aE:=⟨_,rfl⟩
 have b:news.length=(n-j)*4:=by rw[a,cX aE 4 (fun _=>rfl),aT4,l,m]
 obtain⟨A,hA,s⟩: ∃A:Addr,(if c=j then some (⟨g,0,none⟩:Addr)else some ⟨g,j*4,none⟩)=some A∧Hid (∀t u,news[t]? =some u→w.drew.cell? (A.add t)=some u):=by
  by_cases h:c=j
  ·refine⟨⟨g,0,none⟩,by simp[h],fun t u hu=> ?_⟩;rw[aSi (by rw[b];omega:news.length=0)]at hu;simp at hu
  refine⟨⟨g,j*4,none⟩,by simp[h],fun t u hu=> ?_⟩;have ht:t<(n-j)*4:=by have:=(aRk.1 hu).1;rwa[b]at this
  rw[Addr.add_lit,d.cellAt _ (by omega)];rw[a,←lA,List.getElem?_drop]at hu;rw[m];exact hu
 have s1:Hid (news.length=(n-j)*4):=b;have s2:Hid (∀u∈news,u.oneCell'=true):=by show∀u∈news,_;rw[a];exact eZ _
 have o:(bs.flatMap aE).length=n*4:=by rw[cX aE 4 (fun _=>rfl),l]
 have s3:Hid (∀t,t<news.length→(w.drew.cell? ⟨g,0+i*4+t,none⟩).isSome=true∧w.drew.frozen? ⟨g,0+i*4+t,none⟩=false):=by intro t ht;rw[b]at ht;refine⟨?_,d.frozenAt _⟩;rw[d.cellAt _ (by omega),aRh (by rw[o];omega)];rfl
 obtain⟨W1,f⟩: ∃W1,W1=w.drew.setCells g (0+i*4) news:=⟨_,rfl⟩
 obtain⟨h1,g1⟩:=gI news (i*4) _ _ d (by rw[b,o];omega);have hW:Hid (W1=w.drew.setCells g (0+i*4) news):=f;rw[aSq]at f;rw[←f]at h1 g1;obtain⟨ys,p⟩: ∃ys,ys=(bs.flatMap aE).take (i*4)++news++(bs.flatMap aE).drop (i*4+news.length):=⟨_,rfl⟩
 rw[←p]at h1;have ad:=fun ty=>aFi W1 ty g ((n-1)*4) (c-(n-1)) (fun t ht=>by rw[h1.cellAt _ (by omega),aRh (by rw[h1.1];omega)];rfl) (fun t _=>h1.frozenAt _)
 obtain⟨h2,g2⟩:=gI [I 0,I 0,I 0,I 0] ((n-1)*4) _ _ h1 (by rw[h1.1];simp;omega);have q:Hid ((W1.setCells g ((n-1)*4) [I 0,I 0,I 0,I 0]).ownsRow B TV 4 (.slice (some ⟨g,0,none⟩) (n-1) c) (n-1) ((bs.eraseIdx i).flatMap aE)):=by have h3:=aP7 h2 (k:=n-1) (by omega) (by omega);rw[aS5,aTe (by rw[aS7,h1.1];omega),List.take_take,Nat.min_self,p,a,aFb bs i n l hi]at h3;exact h3
 have x:Hid (w.grownBy (W1.setCells g ((n-1)*4) [I 0,I 0,I 0,I 0]) (some g)):=by exact(show w.grownBy w.drew (some g)from⟨rfl,rfl,rfl,aRg _,fun _ _ _=>rfl⟩).trans (g1.trans g2)
 have ag:i≤j:=by omega
 have ah:j≤n:=by omega
 have af:i≤c:=by omega
 have ak: ¬i=j:=by omega
 have r:i+(n-j)=n-1:=by omega
 have ab:n-(n-1)=1:=by omega
 have ai:n-1≤n:=by omega
 have aj:n-1≤c:=by omega
 have ae: ¬c=n-1:=by omega
 have v:=xQ r;clear f h1 g1 h2 g2 p a b hO d l o m hj r;go_enter func94,ntmps94;go_wp2_with fail;go_region_law (refine step_append_room rfl (.tmp 22) (.tmp 25) 28 rfl TV i0 4 underlying28 y z g 0 i c (by simp[Act.eval,Act.put]) A (n-j) (c-j) news (by simp[Act.eval,Act.put]) s1.out s.out s2.out (by omega) s3.out ?_;rw[←hW.out,v.out])
 go_wp2;go_ret;exact⟨rfl,q.out,x.out⟩
end Go.Proofs.YtomgkjinhnkpnaaGreatDoor
