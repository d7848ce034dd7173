/-
  Texts of this proof, packed (@packed).
-/
import Derived.Sort.OwnSortedInts
import Derived.Test.YthfmmibomhhmpaaGreatDoorYS
import Derived.Test.YthfmmibomhhmpaaGreatDoorY5
namespace Go.Proofs.YthfmmibomhhmpaaGreatDoor
open Go.RowKit
set_option linter.unusedSimpArgs false
set_option linter.unusedVariables false
set_option maxHeartbeats 8000000
set_option maxRecDepth 100000
section
open Go.Proofs.Tryz
theorem zD (f s p c i pd a now:Int)(w:World)(h:bJ f s p c=true)(h2:dI i pd a=true)(h3:a≤now)(h4:now≤9999):U 35 #[aS f s p c,bX i pd a,now] w (O (I (cF f s p c i pd a now)) w):=by
 obtain⟨b1,b2,b3,b4,b5,b6⟩:=fJ h2;have HT:Hid (∀w,U 43 #[aS f s p c] w (O (.bool true) w)):=fun w=>by rw[←h];exact aD6 f s p c w
 have HS:Hid (∀w,U 45 #[bX i pd a] w (O (.bool true) w)):=fun w=>by rw[←h2];exact aOp i pd a w
 obtain⟨q,hq⟩: ∃q,q=nK f s p c (now-i):=⟨_,rfl⟩
 have o:0≤q∧q≤693:=by rw[hq];exact qS h (by omega) (by omega)
 have HF:Hid (∀w,U 72 #[aS f s p c,(now-i:Int)] w (O (I q) w)):=fun w=>by rw[hq];exact aSb f s p c _ w h (by omega) (by omega)
 have j:cF f s p c i pd a now=max (q-pd) 0:=by rw[hq];simp[cF,h,h2,h3,h4]
 rw[j];clear hq j h h2;go_enter func35,ntmps35;go_wp2_with fail;refine Z (HT _) fun w1 b=>?_
 have k:(w:Nat)<w1:=aT4 (by simp;omega) b.sz;have l:w.heap.size+1<w1.heap.size:=aT4 (by simp) b.sz;have e0:w1.cell? ⟨w,0,none⟩=some (I f):=by rw[b.cells.1 _ _ (by simp;omega)];simp
 have e1:w1.cell? ⟨w,1,none⟩=some (I s):=by rw[b.cells.1 _ _ (by simp;omega)];simp
 have e2:w1.cell? ⟨w,2,none⟩=some (I p):=by rw[b.cells.1 _ _ (by simp;omega)];simp
 have e3:w1.cell? ⟨w,3,none⟩=some (I c):=by rw[b.cells.1 _ _ (by simp;omega)];simp
 have g0:w1.cell? ⟨w.heap.size+1,0,none⟩=some (I i):=by rw[b.cells.1 _ _ (by simp)];simp
 have g1:w1.cell? ⟨w.heap.size+1,1,none⟩=some (I pd):=by rw[b.cells.1 _ _ (by simp)];simp
 have g2:w1.cell? ⟨w.heap.size+1,2,none⟩=some (I a):=by rw[b.cells.1 _ _ (by simp)];simp
 go_wp2_with (first|(go_at_call 45;refine Z (HS _) fun w2 g=>?_;have m:=g.cells.1;have r:(w:Nat)<w2:=aT4 k g.sz;have t:w.heap.size+1<w2.heap.size:=aT4 l g.sz)|go_in);have k1:=aVw (now-i);have k2:=aVw (q-pd)
 go_region_held3 (fun w'=>w'.cell? ⟨w,0,none⟩=some (I f)∧w'.cell? ⟨w,1,none⟩=some (I s)∧w'.cell? ⟨w,2,none⟩=some (I p)∧w'.cell? ⟨w,3,none⟩=some (I c)∧w'.cell? ⟨w.heap.size+1,0,none⟩=some (I i)∧w'.cell? ⟨w.heap.size+1,1,none⟩=some (I pd)) (go_keep)
  ((go_at_call 72;refine Z (HF _) fun w3 d=>?_;(try replace d:=d.of_drew);have n:=d.cells.1;have u:(w:Nat)<w3:=aT4 (by assumption) d.sz;have v:w.heap.size+1<w3.heap.size:=aT4 (by assumption) d.sz))
 all_goals clear k1 k2
 all_goals go_wp2
 all_goals go_ret
 all_goals exact⟨eS (by omega),by exact .trans (.trans (.trans (.alloc (.alloc (.refl _) _) _) b) g) d⟩
theorem aCc (f s p c i pd a now:Int)(w:World)(h:bJ f s p c=true)(h2:dI i pd a=true)(h3:a≤now)(h4:now≤9999):U 125 #[aS f s p c,bX i pd a,now] w (O (I (cF f s p c i pd a now)) w):=by
 obtain⟨b1,b2,b3,b4,b5,b6⟩:=fJ h2;have HT:Hid (∀w,U 26 #[aS f s p c] w (O (.bool true) w)):=fun w=>by rw[←h];exact yE f s p c w
 have HS:Hid (∀w,U 28 #[bX i pd a] w (O (.bool true) w)):=fun w=>by rw[←h2];exact aN7 i pd a w
 obtain⟨q,hq⟩: ∃q,q=nK f s p c (now-i):=⟨_,rfl⟩
 have o:0≤q∧q≤693:=by rw[hq];exact qS h (by omega) (by omega)
 have HF:Hid (∀w,U 164 #[aS f s p c,(now-i:Int)] w (O (I q) w)):=fun w=>by rw[hq];exact aRx f s p c _ w h (by omega) (by omega)
 have j:cF f s p c i pd a now=max (q-pd) 0:=by rw[hq];simp[cF,h,h2,h3,h4]
 rw[j];clear hq j h h2;go_enter func125,ntmps125;go_wp2_with fail;refine Z (HT _) fun w1 b=>?_
 have k:(w:Nat)<w1:=aT4 (by simp;omega) b.sz;have l:w.heap.size+1<w1.heap.size:=aT4 (by simp) b.sz;have e0:w1.cell? ⟨w,0,none⟩=some (I f):=by rw[b.cells.1 _ _ (by simp;omega)];simp
 have e1:w1.cell? ⟨w,1,none⟩=some (I s):=by rw[b.cells.1 _ _ (by simp;omega)];simp
 have e2:w1.cell? ⟨w,2,none⟩=some (I p):=by rw[b.cells.1 _ _ (by simp;omega)];simp
 have e3:w1.cell? ⟨w,3,none⟩=some (I c):=by rw[b.cells.1 _ _ (by simp;omega)];simp
 have g0:w1.cell? ⟨w.heap.size+1,0,none⟩=some (I i):=by rw[b.cells.1 _ _ (by simp)];simp
 have g1:w1.cell? ⟨w.heap.size+1,1,none⟩=some (I pd):=by rw[b.cells.1 _ _ (by simp)];simp
 have g2:w1.cell? ⟨w.heap.size+1,2,none⟩=some (I a):=by rw[b.cells.1 _ _ (by simp)];simp
 go_wp2_with (first|(go_at_call 28;refine Z (HS _) fun w2 g=>?_;have m:=g.cells.1;have r:(w:Nat)<w2:=aT4 k g.sz;have t:w.heap.size+1<w2.heap.size:=aT4 l g.sz)|go_in);have k1:=aVw (now-i);have k2:=aVw (q-pd)
 go_region_held3 (fun w'=>w'.cell? ⟨w,0,none⟩=some (I f)∧w'.cell? ⟨w,1,none⟩=some (I s)∧w'.cell? ⟨w,2,none⟩=some (I p)∧w'.cell? ⟨w,3,none⟩=some (I c)∧w'.cell? ⟨w.heap.size+1,0,none⟩=some (I i)∧w'.cell? ⟨w.heap.size+1,1,none⟩=some (I pd)) (go_keep)
  ((go_at_call 164;refine Z (HF _) fun w3 d=>?_;(try replace d:=d.of_drew);have n:=d.cells.1;have u:(w:Nat)<w3:=aT4 (by assumption) d.sz;have v:w.heap.size+1<w3.heap.size:=aT4 (by assumption) d.sz))
 all_goals clear k1 k2
 all_goals go_wp2
 all_goals go_ret
 all_goals exact⟨eS (by omega),by exact .trans (.trans (.trans (.alloc (.alloc (.refl _) _) _) b) g) d⟩
theorem aOw (f s p c i pd a now d1 d2:Int)(w:World)(h0:0≤d1)(h2:0≤d2)(h3:a≤now)(h4:now≤9999)(h5:0≤a)(t1:(d1==0)=true)
  (HA:Hid (∀w,U 35 #[aS f s p c,bX i pd a,now] w (O (I d1) w)))
  (HB:Hid (∀w,U 35 #[aS f s p c,bX i pd a,a] w (O (I d2) w))):
  U 109 #[aS f s p c,bX i pd a,now] w (O (.bool true) w):=by
 go_enter func109,ntmps109;go_wp2_with fail;refine Z (HA _) fun w1 b=>?_
 have g:(w:Nat)<w1:=aT4 (by simp;omega) b.sz;have h:w.heap.size+1<w1.heap.size:=aT4 (by simp) b.sz;have d:=b.cells.1;go_wp2;go_ret;exact⟨aT (by first|rfl|(simp;omega)),by exact .trans (.alloc (.alloc (.refl _) _) _) b⟩
theorem aOv (f s p c i pd a now d1 d2:Int)(w:World)(h0:0≤d1)(h2:0≤d2)(h3:a≤now)(h4:now≤9999)(h5:0≤a)(t1:(d1==0)=false)(t2:15<now-a)(t3:(d2==0)=true)
  (HA:Hid (∀w,U 35 #[aS f s p c,bX i pd a,now] w (O (I d1) w)))
  (HB:Hid (∀w,U 35 #[aS f s p c,bX i pd a,a] w (O (I d2) w))):
  U 109 #[aS f s p c,bX i pd a,now] w (O (.bool false) w):=by
 go_enter func109,ntmps109;go_wp2_with fail;refine Z (HA _) fun w1 b=>?_
 have g:(w:Nat)<w1:=aT4 (by simp;omega) b.sz;have h:w.heap.size+1<w1.heap.size:=aT4 (by simp) b.sz;have d:=b.cells.1;go_wp2;go_ret;exact⟨aT (by first|rfl|(simp;omega)),by exact .trans (.alloc (.alloc (.refl _) _) _) b⟩
theorem aOu (f s p c i pd a now d1 d2:Int)(w:World)(h0:0≤d1)(h2:0≤d2)(h3:a≤now)(h4:now≤9999)(h5:0≤a)(t1:(d1==0)=false)(t2:now-a≤15)(t3:(d2==0)=true)
  (HA:Hid (∀w,U 35 #[aS f s p c,bX i pd a,now] w (O (I d1) w)))
  (HB:Hid (∀w,U 35 #[aS f s p c,bX i pd a,a] w (O (I d2) w))):
  U 109 #[aS f s p c,bX i pd a,now] w (O (.bool true) w):=by
 go_enter func109,ntmps109;go_wp2_with fail;refine Z (HA _) fun w1 b=>?_
 have g:(w:Nat)<w1:=aT4 (by simp;omega) b.sz;have h:w.heap.size+1<w1.heap.size:=aT4 (by simp) b.sz;have j:=b.cells.1;go_wp2_with fail;refine Z (HB _) fun w2 d=>?_
 have l:=aT4 g d.sz;have m:=aT4 h d.sz;have k:=d.cells.1;go_wp2;go_ret;exact⟨aT (by first|rfl|(simp;omega)),by exact .trans (.trans (.alloc (.alloc (.refl _) _) _) b) d⟩
theorem aOt (f s p c i pd a now d1 d2:Int)(w:World)(h0:0≤d1)(h2:0≤d2)(h3:a≤now)(h4:now≤9999)(h5:0≤a)(t1:(d1==0)=false)(t2:15<now-a)(t3:(d2==0)=false)
  (HA:Hid (∀w,U 35 #[aS f s p c,bX i pd a,now] w (O (I d1) w)))
  (HB:Hid (∀w,U 35 #[aS f s p c,bX i pd a,a] w (O (I d2) w))):
  U 109 #[aS f s p c,bX i pd a,now] w (O (.bool false) w):=by
 go_enter func109,ntmps109;go_wp2_with fail;refine Z (HA _) fun w1 b=>?_
 have g:(w:Nat)<w1:=aT4 (by simp;omega) b.sz;have h:w.heap.size+1<w1.heap.size:=aT4 (by simp) b.sz;have d:=b.cells.1;go_wp2;go_ret;exact⟨aT (by first|rfl|(simp;omega)),by exact .trans (.alloc (.alloc (.refl _) _) _) b⟩
theorem aOs (f s p c i pd a now d1 d2:Int)(w:World)(h0:0≤d1)(h2:0≤d2)(h3:a≤now)(h4:now≤9999)(h5:0≤a)(t1:(d1==0)=false)(t2:now-a≤15)(t3:(d2==0)=false)
  (HA:Hid (∀w,U 35 #[aS f s p c,bX i pd a,now] w (O (I d1) w)))
  (HB:Hid (∀w,U 35 #[aS f s p c,bX i pd a,a] w (O (I d2) w))):
  U 109 #[aS f s p c,bX i pd a,now] w (O (.bool false) w):=by
 go_enter func109,ntmps109;go_wp2_with fail;refine Z (HA _) fun w1 b=>?_
 have g:(w:Nat)<w1:=aT4 (by simp;omega) b.sz;have h:w.heap.size+1<w1.heap.size:=aT4 (by simp) b.sz;have j:=b.cells.1;go_wp2_with fail;refine Z (HB _) fun w2 d=>?_
 have l:=aT4 g d.sz;have m:=aT4 h d.sz;have k:=d.cells.1;go_wp2;go_ret;exact⟨aT (by first|rfl|(simp;omega)),by exact .trans (.trans (.alloc (.alloc (.refl _) _) _) b) d⟩
theorem aS7 (f s p c i pd a now:Int)(w:World)(h:bJ f s p c=true)(h2:dI i pd a=true)(h3:a≤now)(h4:now≤9999):U 109 #[aS f s p c,bX i pd a,now] w (O (.bool (lN f s p c i pd a now)) w):=by
 obtain⟨b1,b2,b3,b4,b5,b6⟩:=fJ h2;have e1:0≤cF f s p c i pd a now:=by unfold cF;rw[if_pos (by simp[h,h2,h3,h4])];omega
 have e2:0≤cF f s p c i pd a a:=by unfold cF;rw[if_pos (by simp[h,h2];omega)];omega
 have hr:lN f s p c i pd a now=(decide (cF f s p c i pd a now=0) || (decide (now-a≤15)&&decide (cF f s p c i pd a a=0))):=by simp[lN,e1]
 have hA:=fun w=>zD f s p c i pd a now w h h2 h3 h4
 have hB:=fun w=>zD f s p c i pd a a w h h2 (by omega) b6
 rw[hr];generalize cF f s p c i pd a now=d1 at*;generalize cF f s p c i pd a a=d2 at*;by_cases t1:d1=0
 ·rw[show(decide (d1=0) || (decide (now-a≤15)&&decide (d2=0)))=true by simp[t1]];exact aOw f s p c i pd a now d1 d2 w e1 e2 h3 h4 (by omega) (by simp[t1]) hA hB
 by_cases t2:now-a≤15
 ·by_cases t3:d2=0
  ·rw[show(decide (d1=0) || (decide (now-a≤15)&&decide (d2=0)))=true by simp[t2,t3]];exact aOu f s p c i pd a now d1 d2 w e1 e2 h3 h4 (by omega) (by simp[t1]) t2 (by simp[t3]) hA hB
  rw[show(decide (d1=0) || (decide (now-a≤15)&&decide (d2=0)))=false by simp[t1,t3]];exact aOs f s p c i pd a now d1 d2 w e1 e2 h3 h4 (by omega) (by simp[t1]) t2 (by simp[t3]) hA hB
 by_cases t3:d2=0
 ·rw[show(decide (d1=0) || (decide (now-a≤15)&&decide (d2=0)))=false by simp[t1,t2]];exact aOv f s p c i pd a now d1 d2 w e1 e2 h3 h4 (by omega) (by simp[t1]) (by omega) (by simp[t3]) hA hB
 rw[show(decide (d1=0) || (decide (now-a≤15)&&decide (d2=0)))=false by simp[t1,t2]];exact aOt f s p c i pd a now d1 d2 w e1 e2 h3 h4 (by omega) (by simp[t1]) (by omega) (by simp[t3]) hA hB
theorem aNg (f s p c i pd a now d1 d2:Int)(w:World)(h0:0≤d1)(h2:0≤d2)(h3:a≤now)(h4:now≤9999)(h5:0≤a)(t1:(d1==0)=true)
  (HA:Hid (∀w,U 125 #[aS f s p c,bX i pd a,now] w (O (I d1) w)))
  (HB:Hid (∀w,U 125 #[aS f s p c,bX i pd a,a] w (O (I d2) w))):
  U 118 #[aS f s p c,bX i pd a,now] w (O (.bool true) w):=by
 go_enter func118,ntmps118;go_wp2_with fail;refine Z (HA _) fun w1 b=>?_
 have g:(w:Nat)<w1:=aT4 (by simp;omega) b.sz;have h:w.heap.size+1<w1.heap.size:=aT4 (by simp) b.sz;have j:=b.cells.1;go_wp2_with fail;refine Z (HA _) fun w2 d=>?_
 have l:=aT4 g d.sz;have m:=aT4 h d.sz;have k:=d.cells.1;go_wp2;go_ret;exact⟨aT (by first|rfl|(simp;omega)),by exact .trans (.trans (.alloc (.alloc (.refl _) _) _) b) d⟩
theorem aNf (f s p c i pd a now d1 d2:Int)(w:World)(h0:0≤d1)(h2:0≤d2)(h3:a≤now)(h4:now≤9999)(h5:0≤a)(t1:(d1==0)=false)(t2:15<now-a)(t3:(d2==0)=true)
  (HA:Hid (∀w,U 125 #[aS f s p c,bX i pd a,now] w (O (I d1) w)))
  (HB:Hid (∀w,U 125 #[aS f s p c,bX i pd a,a] w (O (I d2) w))):
  U 118 #[aS f s p c,bX i pd a,now] w (O (.bool false) w):=by
 go_enter func118,ntmps118;go_wp2_with fail;refine Z (HA _) fun w1 b=>?_
 have h:(w:Nat)<w1:=aT4 (by simp;omega) b.sz;have j:w.heap.size+1<w1.heap.size:=aT4 (by simp) b.sz;have m:=b.cells.1;go_wp2_with fail;refine Z (HA _) fun w2 d=>?_
 have k:=aT4 h d.sz;have l:=aT4 j d.sz;have n:=d.cells.1;go_wp2_with fail;refine Z (HB _) fun w3 g=>?_
 have q:=aT4 k g.sz;have r:=aT4 l g.sz;have o:=g.cells.1;go_wp2;go_ret;exact⟨aT (by first|rfl|(simp;omega)),by exact .trans (.trans (.trans (.alloc (.alloc (.refl _) _) _) b) d) g⟩
theorem aNe (f s p c i pd a now d1 d2:Int)(w:World)(h0:0≤d1)(h2:0≤d2)(h3:a≤now)(h4:now≤9999)(h5:0≤a)(t1:(d1==0)=false)(t2:now-a≤15)(t3:(d2==0)=true)
  (HA:Hid (∀w,U 125 #[aS f s p c,bX i pd a,now] w (O (I d1) w)))
  (HB:Hid (∀w,U 125 #[aS f s p c,bX i pd a,a] w (O (I d2) w))):
  U 118 #[aS f s p c,bX i pd a,now] w (O (.bool true) w):=by
 go_enter func118,ntmps118;go_wp2_with fail;refine Z (HA _) fun w1 b=>?_
 have h:(w:Nat)<w1:=aT4 (by simp;omega) b.sz;have j:w.heap.size+1<w1.heap.size:=aT4 (by simp) b.sz;have m:=b.cells.1;go_wp2_with fail;refine Z (HA _) fun w2 d=>?_
 have k:=aT4 h d.sz;have l:=aT4 j d.sz;have n:=d.cells.1;go_wp2_with fail;refine Z (HB _) fun w3 g=>?_
 have q:=aT4 k g.sz;have r:=aT4 l g.sz;have o:=g.cells.1;go_wp2;go_ret;exact⟨aT (by first|rfl|(simp;omega)),by exact .trans (.trans (.trans (.alloc (.alloc (.refl _) _) _) b) d) g⟩
theorem aNd (f s p c i pd a now d1 d2:Int)(w:World)(h0:0≤d1)(h2:0≤d2)(h3:a≤now)(h4:now≤9999)(h5:0≤a)(t1:(d1==0)=false)(t2:15<now-a)(t3:(d2==0)=false)
  (HA:Hid (∀w,U 125 #[aS f s p c,bX i pd a,now] w (O (I d1) w)))
  (HB:Hid (∀w,U 125 #[aS f s p c,bX i pd a,a] w (O (I d2) w))):
  U 118 #[aS f s p c,bX i pd a,now] w (O (.bool false) w):=by
 go_enter func118,ntmps118;go_wp2_with fail;refine Z (HA _) fun w1 b=>?_
 have h:(w:Nat)<w1:=aT4 (by simp;omega) b.sz;have j:w.heap.size+1<w1.heap.size:=aT4 (by simp) b.sz;have m:=b.cells.1;go_wp2_with fail;refine Z (HA _) fun w2 d=>?_
 have k:=aT4 h d.sz;have l:=aT4 j d.sz;have n:=d.cells.1;go_wp2_with fail;refine Z (HB _) fun w3 g=>?_
 have q:=aT4 k g.sz;have r:=aT4 l g.sz;have o:=g.cells.1;go_wp2;go_ret;exact⟨aT (by first|rfl|(simp;omega)),by exact .trans (.trans (.trans (.alloc (.alloc (.refl _) _) _) b) d) g⟩
theorem aNc (f s p c i pd a now d1 d2:Int)(w:World)(h0:0≤d1)(h2:0≤d2)(h3:a≤now)(h4:now≤9999)(h5:0≤a)(t1:(d1==0)=false)(t2:now-a≤15)(t3:(d2==0)=false)
  (HA:Hid (∀w,U 125 #[aS f s p c,bX i pd a,now] w (O (I d1) w)))
  (HB:Hid (∀w,U 125 #[aS f s p c,bX i pd a,a] w (O (I d2) w))):
  U 118 #[aS f s p c,bX i pd a,now] w (O (.bool false) w):=by
 go_enter func118,ntmps118;go_wp2_with fail;refine Z (HA _) fun w1 b=>?_
 have h:(w:Nat)<w1:=aT4 (by simp;omega) b.sz;have j:w.heap.size+1<w1.heap.size:=aT4 (by simp) b.sz;have m:=b.cells.1;go_wp2_with fail;refine Z (HA _) fun w2 d=>?_
 have k:=aT4 h d.sz;have l:=aT4 j d.sz;have n:=d.cells.1;go_wp2_with fail;refine Z (HB _) fun w3 g=>?_
 have q:=aT4 k g.sz;have r:=aT4 l g.sz;have o:=g.cells.1;go_wp2;go_ret;exact⟨aT (by first|rfl|(simp;omega)),by exact .trans (.trans (.trans (.alloc (.alloc (.refl _) _) _) b) d) g⟩
theorem aRt (f s p c i pd a now:Int)(w:World)(h:bJ f s p c=true)(h2:dI i pd a=true)(h3:a≤now)(h4:now≤9999):U 118 #[aS f s p c,bX i pd a,now] w (O (.bool (lN f s p c i pd a now)) w):=by
 obtain⟨b1,b2,b3,b4,b5,b6⟩:=fJ h2;have e1:0≤cF f s p c i pd a now:=by unfold cF;rw[if_pos (by simp[h,h2,h3,h4])];omega
 have e2:0≤cF f s p c i pd a a:=by unfold cF;rw[if_pos (by simp[h,h2];omega)];omega
 have hr:lN f s p c i pd a now=(decide (cF f s p c i pd a now=0) || (decide (now-a≤15)&&decide (cF f s p c i pd a a=0))):=by simp[lN,e1]
 have hA:=fun w=>aCc f s p c i pd a now w h h2 h3 h4
 have hB:=fun w=>aCc f s p c i pd a a w h h2 (by omega) b6
 rw[hr];generalize cF f s p c i pd a now=d1 at*;generalize cF f s p c i pd a a=d2 at*;by_cases t1:d1=0
 ·rw[show(decide (d1=0) || (decide (now-a≤15)&&decide (d2=0)))=true by simp[t1]];exact aNg f s p c i pd a now d1 d2 w e1 e2 h3 h4 (by omega) (by simp[t1]) hA hB
 by_cases t2:now-a≤15
 ·by_cases t3:d2=0
  ·rw[show(decide (d1=0) || (decide (now-a≤15)&&decide (d2=0)))=true by simp[t2,t3]];exact aNe f s p c i pd a now d1 d2 w e1 e2 h3 h4 (by omega) (by simp[t1]) t2 (by simp[t3]) hA hB
  rw[show(decide (d1=0) || (decide (now-a≤15)&&decide (d2=0)))=false by simp[t1,t3]];exact aNc f s p c i pd a now d1 d2 w e1 e2 h3 h4 (by omega) (by simp[t1]) t2 (by simp[t3]) hA hB
 by_cases t3:d2=0
 ·rw[show(decide (d1=0) || (decide (now-a≤15)&&decide (d2=0)))=false by simp[t1,t2]];exact aNf f s p c i pd a now d1 d2 w e1 e2 h3 h4 (by omega) (by simp[t1]) (by omega) (by simp[t3]) hA hB
 rw[show(decide (d1=0) || (decide (now-a≤15)&&decide (d2=0)))=false by simp[t1,t2]];exact aNd f s p c i pd a now d1 d2 w e1 e2 h3 h4 (by omega) (by simp[t1]) (by omega) (by simp[t3]) hA hB
end
def mR (x:Int):List Int→List Int
 | []=> [x]
 |y::ys=>if y<x then y::mR x ys else x::y::ys
def gJ (xs:List Int):List Int:=xs.foldl (fun acc x=>mR x acc) []
def dL (xs:List Int):List Int:=xs.filter (fun x=>decide (0<x))
def cS (xs:List Int):List Int:=gJ (dL xs)
theorem oG (x:Int): ∀xs,List.Perm (mR x xs) (x::xs):=by
 intro xs;induction xs with
 |nil=>exact List.Perm.refl _
 |cons y ys ih=>
  unfold mR;split
  ·exact(List.Perm.cons y ih).trans (List.Perm.swap x y ys)
  exact List.Perm.refl _
theorem wN (x:Int): ∀xs,xs.Pairwise (·≤ ·)→(mR x xs).Pairwise (·≤ ·):=by
 intro xs;induction xs with
 |nil=>intro _;simp[mR]
 |cons y ys ih=>
  intro h;rw[List.pairwise_cons]at h;unfold mR;split
  ·rename_i hlt;rw[List.pairwise_cons];refine⟨fun z hz=> ?_,ih h.2⟩;rcases aTi.1 ((oG x ys).mem_iff.1 hz)with rfl|hz
   ·omega
   exact h.1 z hz
  rename_i hge;rw[List.pairwise_cons,List.pairwise_cons];refine⟨fun z hz=> ?_,h⟩;rcases aTi.1 hz with rfl|hz
  ·omega
  have:=h.1 z hz;omega
theorem yJ (xs:List Int)(x:Int):gJ (xs++ [x])=mR x (gJ xs):=by simp[gJ,List.foldl_append]
theorem aEp (xs:List Int):List.Perm (gJ xs) xs∧(gJ xs).Pairwise (·≤ ·):=by
 suffices h: ∀(n:Nat) (xs:List Int),xs.length=n→List.Perm (gJ xs) xs∧(gJ xs).Pairwise (·≤ ·)from h _ xs rfl
 intro n;induction n with
 |zero=>intro xs h;obtain rfl:=aU7 h;simp[gJ]
 |succ n ih=>
  intro xs h;have a:xs≠ []:=by intro e;rw[e]at h;simp at h
  rw[←List.dropLast_concat_getLast a,yJ];obtain⟨h1,h2⟩:=ih xs.dropLast (by simp[h]);refine⟨?_,wN _ _ h2⟩;exact(oG _ _).trans ((List.Perm.cons _ h1).trans (List.perm_append_singleton _ _).symm)
theorem fW (xs:List Int):List.Perm (gJ xs) xs:=(aEp xs).1
theorem mA (xs:List Int):(gJ xs).Pairwise (·≤ ·):=(aEp xs).2
theorem aB3 (xs:List Int):(gJ xs).length=xs.length:=(fW xs).length_eq
theorem nC (xs:List Int)(x:Int):dL (xs++ [x])=dL xs++(if 0<x then [x]else []):=by unfold dL;rw[aU2];congr 1;by_cases h:0<x<;>simp[h]
theorem kT (xs:List Int):(dL xs).length≤xs.length:=aUb _ _
theorem jM (xs:List Int):(cS xs).length=(dL xs).length:=aB3 _
theorem oR {xs ys:List Int}(h:List.Perm ys xs)(hs:ys.Pairwise (·≤ ·)):ys=gJ xs:=
 List.Perm.eq_of_pairwise (fun a b _ _ h1 h2=>Int.le_antisymm h1 h2) hs (mA xs) (h.trans (fW xs).symm)
abbrev aR:=Int×Int×Int×Int
def aE (v:aR):List Value:= [.int .i64 v.1,.int .i64 v.2.1,.int .i64 v.2.2.1,.int .i64 v.2.2.2]
structure aL where
 aA:Int
 aB:Int
 cells:List Int
 free:Int
 step:Int
 aD:Int
 aF:Int
 aC:Int
 aG:Int
 vs:List aR
def fP (aC:Int)(v:aR):Bool:=dI v.2.1 v.2.2.1 v.2.2.2&&decide (v.2.2.2≤aC)
def cE (aC:Int):List Int→List aR→Bool
 | [],[]=>true
 |c::cs,v::vs=>decide (v.1=c)&&fP aC v&&cE aC cs vs
 |_,_=>false
def sP (h:aL):Bool:=decide (0≤h.aC∧h.aC≤9999∧0≤h.aG∧h.aG≤99999)
def aP (h:aL):Bool:=aN h.aA h.aB h.cells&&bJ h.free h.step h.aD h.aF&&sP h&&cE h.aC (cS h.cells) h.vs
def jT:aL:=⟨0,0,[],0,0,0,0,0,0,[]⟩
theorem wF {aC:Int}{cs:List Int}{vs:List aR}{k:Nat}{c:Int}{v:aR}(hc:cs[k]? =some c) (hv:vs[k]? =some v):
  cE aC (cs.drop k) (vs.drop k)=(decide (v.1=c)&&fP aC v&&cE aC (cs.drop (k+1)) (vs.drop (k+1))):=by
 rw[rU hc,rU hv];rfl
theorem kD {aC:Int}: ∀ {cs:List Int} {vs:List aR},cE aC cs vs=true→vs.map (·.1)=cs∧ ∀v∈vs,fP aC v=true:=by
 intro cs;induction cs with
 |nil=>intro vs h;cases vs with
  |nil=>simp
  |cons v vs=>simp[cE]at h
 |cons c cs ih=>
  intro vs h;cases vs with
  |nil=>simp[cE]at h
  |cons v vs=>
   simp only[cE,aTf,decide_eq_true_eq]at h;obtain⟨⟨h1,h2⟩,h3⟩:=h;obtain⟨i1,i2⟩:=ih h3;refine⟨by simp[h1,i1],fun x hx=> ?_⟩;rcases aTi.1 hx with rfl|hx
   ·exact h2
   exact i2 x hx
theorem wE {aC:Int}{cs:List Int}{vs:List aR}(h:cs.length≠vs.length):cE aC cs vs=false:=by
 cases hh:cE aC cs vs with
 |false=>rfl
 |true=>have:=congrArg List.length (kD hh).1;simp at this;omega
def bT (id:Int)(vs:List aR):Option aR:=vs.find? (fun v=>v.1==id)
def cT (h:aL)(id:Int):Option (Int×Int×Int):=if aP h then(bT id h.vs).map (·.2)else none
def aQ (h:aL)(id:Int):Int:=match cT h id with
 |some s=>cF h.free h.step h.aD h.aF s.1 s.2.1 s.2.2 h.aC
 |none=> -1
def cZ (h:aL)(id:Int):Bool:=match cT h id with
 |some s=>lN h.free h.step h.aD h.aF s.1 s.2.1 s.2.2 h.aC
 |none=>false
def qV (h:aL)(v:aR):Int:=cF h.free h.step h.aD h.aF v.2.1 v.2.2.1 v.2.2.2 h.aC
def tQ (h:aL)(vs:List aR):Int:=vs.foldl (fun a v=>a+qV h v) 0
def dW (h:aL):Int:=if aP h then tQ h h.vs else -1
def cC (h:aL):List Int:=if aP h then
  (if(0:Int)∈h.cells then cS h.cells else h.cells.headD 0::(cS h.cells).filter (fun x=>x !=h.cells.headD 0))else []
section
open Go.Proofs.Tryz
abbrev TI:TypeId:=3
def dN (aA aB:Int)(xs:List Int)(w:World)(e:Ending)(w':World):Prop:=
 ∃p cap,e= .returned (aH aA aB p xs.length cap)∧w'.ownsRow w.heap.size TI 1 (.slice p xs.length cap) xs.length (ivs xs)∧Ext w w'
def cV (aA aB:Int):Int×Int×List Int:=if 2≤aA∧aA≤4∧2≤aB∧aB≤3 then(aA,aB,List.replicate (aA*aB).toNat 0)else(0,0,[])
theorem aLn (n:Nat):(madeCells (I 0).cells (n*1)).toList=ivs (List.replicate n 0):=by apply List.ext_getElem<;>simp[madeCells,Value.cells,Nat.mod_one]
theorem aHe (aA aB:Int)(w:World)(h:aA<2∨2≤aA∧4<aA∨2≤aA∧aA≤4∧aB<2∨2≤aA∧aA≤4∧2≤aB∧3<aB):
  U 73 #[aA,aB] w (dN 0 0 [] w):=by
 rcases h with h|⟨h0,h⟩|⟨h0,h1,h⟩|⟨h0,h1,h2,h⟩
 all_goals
  (try (have a:decide (aB≤3)=false:=by simp;omega));(try (have a:decide (aA≤4)=false:=by simp;omega));go_enter func73,ntmps73;go_wp2_with go_in;exact bodyPost_ret (v:=aH 0 0 none 0 0) (by simp[results,results73,go_sem]) rfl ⟨none,0,rfl,aTe _ _ _ _,by exact .alloc (.refl _) _⟩
theorem Blk.three {w:World}{g:Nat}{t:TypeId}{a b c:Value}(h:Blk w g t #[a,b,c]):w.cell? ⟨g,0,none⟩=some a∧w.cell? ⟨g,1,none⟩=some b∧w.cell? ⟨g,2,none⟩=some c∧w.frozen? ⟨g,0,none⟩=false∧w.frozen? ⟨g,1,none⟩=false∧w.frozen? ⟨g,2,none⟩=false:=
 ⟨h.cell 0,h.cell 1,h.cell 2,h.frozen 0,h.frozen 1,h.frozen 2⟩
theorem tM {aA aB:Int}{p:OA}{n a:Nat}{xs:List Int}{w w':World}(hn:xs.length=n)(ho:w'.ownsRow w TI 1 (.slice p n a) n (ivs xs))(hx:Ext w w'):dN aA aB xs w (.returned (aH aA aB p n a)) w':=by subst hn;exact⟨p,a,rfl,ho,hx⟩
theorem aI3 {w:World}{B n:Nat}{xs:List Value}{c0 c1 c2:Value}(h:w.ownsRow B TI 1 (.slice (some ⟨B+1,0,none⟩) n n) n xs):
  (((w.setCell ⟨B,0,none⟩ c0).setCell ⟨B,1,none⟩ c1).setCell ⟨B,2,none⟩ c2).ownsRow B TI 1 (.slice (some ⟨B+1,0,none⟩) n n) n xs:=by
 have hx:ExtR B w (((w.setCell ⟨B,0,none⟩ c0).setCell ⟨B,1,none⟩ c1).setCell ⟨B,2,none⟩ c2):=(((ExtR.refl B w).setCell (p:=⟨B,0,none⟩) (.inl rfl) _).setCell (p:=⟨B,1,none⟩) (.inl rfl) _).setCell (p:=⟨B,2,none⟩) (.inl rfl) _;exact h.kept hx (.inr (by simp[Value.ownBlock]))
theorem aL1 (aA aB:Int)(n:Nat)(w:World)(h0:2≤aA)(h1:aA≤4)(h2:2≤aB)(h3:aB≤3)(h4:0≤aA*aB)(h5:aA*aB≤12)(h6:aA*aB=(n:Int))(h7:n≤12):
  U 73 #[aA,aB] w (dN aA aB (List.replicate n 0) w):=by
 obtain⟨i0,hi,e,f,g⟩:=info_parts (show(prog.info? 3).map (fun i=>(i.zero,i.size,i.bytes))=some (some (I 0),1,8) by kernel_rfl);have q1:decide (aA≤4)=true:=by simp[h1]
 have q2:decide (aB≤3)=true:=by simp[h3]
 go_enter func73,ntmps73;go_wp2_with (first|go_in|(at_make;refine wpList_make_full _ rfl _ _ 23 rfl w 3 i0 (I 0) 1 underlying23 hi e f .i64 .i64 _ _ n rfl rfl (by first|rfl|exact h6) (by first|rfl|exact h6) (by rw[g];omega) (by unfold maxLen;omega) (by simp) ?_;intro w0 a b;have c:Ext _ w0:=(Ext.refl _).grown b (fun q hq=>by cases hq);obtain⟨p0,p1,p2,p3,p4,p5⟩:=((Blk.new w 25 #[(),(),((),())]).ext c).three;have hz:(w:Nat)<w0:=aT4 (by simp) c.sz;rw[aLn]at a;have HO:=xQ a;have d:Hid (Ext w w0):=((Ext.refl w).alloc _).trans c;clear a b c));have hx:Ext w _:=(((d.out.setCell (p:=⟨w,0,none⟩) (aT5 _) (I aA)).setCell (p:=⟨w,1,none⟩) (aT5 _) (I aB)).setCell (p:=⟨w,2,none⟩) (aT5 _) (.slice (some ⟨w.heap.size+1,0,none⟩) n n))
 exact bodyPost_ret (v:=aH aA aB (some ⟨w.heap.size+1,0,none⟩) n n) (by simp[results,results73,go_sem, *]) rfl (tM (by simp) (aI3 (by simpa using HO.out)) hx)
def bC (xs:List Int)(w:World)(e:Ending)(w':World):Prop:=
 ∃p cap,e= .returned (.slice p xs.length cap)∧w'.ownsRow w.heap.size TI 1 (.slice p xs.length cap) xs.length (ivs xs)∧Ext w w'
theorem dO {p:OA}{n a:Nat}{xs:List Int}{w w':World}(hn:xs.length=n)(ho:w'.ownsRow w TI 1 (.slice p n a) n (ivs xs))(hx:Ext w w'):bC xs w (.returned (.slice p n a)) w':=by subst hn;exact⟨p,a,rfl,ho,hx⟩
theorem aJq: ∀(xs:List Int) (k:Nat) (x:Int),(∀y∈xs.take k,y<x)→(∀y,xs[k]? =some y→ ¬y<x)→mR x xs=xs.take k++x::xs.drop k:=by
 intro xs;induction xs with
 |nil=>intro k x _ _;simp[mR]
 |cons y ys ih=>
  intro k x h1 h2;cases k with
  |zero=>have:=h2 y rfl;simp[mR,this]
  |succ k=>have h3:y<x:=h1 y (by simp);rw[mR,if_pos h3,ih k x (fun z hz=>h1 z (by simp[hz])) (fun z hz=>h2 z (by simpa using hz))];simp
theorem aOm (x:Int)(xs:List Int):(mR x xs).length=xs.length+1:=(oG x xs).length_eq
theorem aQg {w:World}{b c n a k:Nat}{xs:List Int}(h:Sl w (some ⟨b,c,none⟩) n a 1 (ivs xs))(hk:k≤n):Sl w (some ⟨b,c+k,none⟩) (n-k) (a-k) 1 (ivs (xs.drop k)):=by have hl:=h.ilen;have f:=h.le;have g:=h.mx;refine⟨by simp;omega,by omega,by omega,fun h0=> ?_⟩;obtain⟨b',d,e,hb,hc⟩:=h.rd (by omega);injection e with e;injection e with e1 e2;subst e1 e2;refine⟨_,_,rfl,hb,fun j hj=> ?_⟩;rw[Nat.add_assoc,hc (k+j) (by omega)];simp
theorem aQf (w:World)(p:OA){c:Nat}(hc:c≤maxLen):Sl w p 0 c 1 (ivs []):=⟨by simp,aTd _,hc,fun h=>absurd h (by omega)⟩
theorem aD3 (p:OA)(n m:Nat)(xs:List Int)(x:Int)(w:World)(hn:n≤1000000)(hS:Sl w p n m 1 (ivs xs)):
  U 53 #[.slice p n m,x] w (bC (mR x xs) w):=by
 have hl:=xQ hS.ilen;have ae:=hS.le;have ad:=hS.mx;unfold maxLen at ad;have HS:=xQ hS;clear hS;go_enter func53,ntmps53;go_wp2;go_loopw [5,6] (fun v i wr=> ∃(k:Nat) (q:OA) (c:Nat),k≤n∧i=I k∧v= .slice q k c∧wr.ownsRow w TI 1 (.slice q k c) k (ivs (xs.take k))∧(∀y∈xs.take k,y<x)∧Ext w wr) (fun _ i _=>n-(intOf i).toNat)
 case atStart=>exact⟨0,_,0,aTd _,rfl,rfl,aU5 _ #[] 0 (aT5 _) (by simp[maxLen]) rfl,by simp,by exact .alloc (.refl _) _⟩
 case round=>
  obtain⟨k,q,c,hk,rfl,rfl,r,o,hE⟩:=hrel;have HO:=xQ r;have HL:=xQ o;have ah:=hE.sz;clear r o;by_cases hlt:k<n
  ·obtain⟨b,ai,y,rfl,hx,hb,ab⟩:=(HS.out.ext hE).int_at hlt;have HX:=xQ hx;clear hx;by_cases hy:y<x
   ·have d:Hid (∀z∈xs.take (k+1),z<x):=by
     show∀z∈xs.take (k+1),z<x;rw[bA HX.out];intro z hz;rcases aTn.1 hz with h|h
     ·exact HL z h
     simp at h;omega
    go_wp2_with (at_builtin;refine cW fY rfl _ _ rfl w _ _ _ rfl (HO.out.alloc _) _ _ y _ rfl (by simp) (by omega) (by simp;omega) ?_;intro p' aa w1 a g;have j:=xQ a;have f:Ext w w1:=Ext.own (hE.alloc _) (HO.out.alloc _) g (aT5 _);clear a g);go_roundw
    case rel=>exact⟨k+1,p',aa,by omega,by go_num,rfl,by rw[bA HX.out];exact j.out,d.out,f⟩
    case measure=>simp[intOf];omega
   have d:Hid (mR x xs=xs.take k++x::xs.drop k):=aJq xs k x HL (fun z hz=>by rw[HX.out]at hz;injection hz with hz;subst hz;exact hy);have i1:=aVt k;have i2:=aVv k n;have ag: ¬m=k:=by omega
   go_wp2
   go_region_law ((first
    |(refine kF _ fY (by rfl) _ _ (by rfl) w _ k (ivs (xs.take k)) (by rfl) (by first|exact HO.out|exact HO.out.alloc _|exact(HO.out.alloc _).drew|exact HO.out.drew.alloc _|exact HO.out.drew) _ 1 1 [iv x] (by rfl) (by first|exact Sl.new wr #[iv x] _ 1 rfl (by decide)|exact(Sl.new wr #[iv x] _ 1 rfl (by decide)).ext (Ext.drew (Ext.refl _))|exact Sl.new wr.drew #[iv x] _ 1 rfl (by decide)) (rN [x]) (by omega) (by simp;omega) ?_
      intro p1 c1 w1 a g;have f:Ext w w1:=Ext.own (by exact .drew (.alloc hE _)) (by first|exact HO.out|exact HO.out.alloc _|exact(HO.out.alloc _).drew|exact HO.out.drew.alloc _|exact HO.out.drew) g (aT5 _);have j:=xQ a;have u:=xQ (HS.out.ext f);have af:=f.sz
      clear a g)
    |(refine kF _ fY (by rfl) _ _ (by rfl) w _ (k+1) (ivs (xs.take k)++ [iv x]) (by rfl) j _ (n-k) (m-k) (ivs (xs.drop k)) (by rfl) (aQg u (by omega)) (rN _) (by omega) (by omega) ?_
      intro p2 c2 w2 e l;have t:Ext w w2:=Ext.own f j l (aT5 _);have s:=xQ e
      clear e l)))
   all_goals go_wp2
   all_goals go_ret
   all_goals exact dO (by rw[d.out];simp;rw[hl.out];omega) (by rw[d.out];simpa using s.out) t
  obtain rfl:k=n:=by omega
  have d:Hid (mR x xs=xs++ [x]):=by have:=aJq xs k x HL (fun z hz=>by rw[aUn (by rw[hl.out];exact aT5 _)]at hz;cases hz);show _=_;rw[this,aTa (by rw[hl.out];exact aT5 _),aUr (by rw[hl.out];exact aT5 _)]
  have i1:=aVt k;go_wp2
  go_region_law ((first
   |(refine kF _ fY (by rfl) _ _ (by rfl) w _ k (ivs (xs.take k)) (by rfl) (by first|exact HO.out|exact HO.out.alloc _|exact(HO.out.alloc _).drew|exact HO.out.drew.alloc _|exact HO.out.drew) _ 1 1 [iv x] (by rfl) (by first|exact Sl.new wr #[iv x] _ 1 rfl (by decide)|exact(Sl.new wr #[iv x] _ 1 rfl (by decide)).ext (Ext.drew (Ext.refl _))|exact Sl.new wr.drew #[iv x] _ 1 rfl (by decide)) (rN [x]) (by omega) (by simp;omega) ?_
     intro p1 c1 w1 a g;have f:Ext w w1:=Ext.own (by exact .drew (.alloc hE _)) (by first|exact HO.out|exact HO.out.alloc _|exact(HO.out.alloc _).drew|exact HO.out.drew.alloc _|exact HO.out.drew) g (aT5 _);have j:=xQ a;have u:=xQ (HS.out.ext f);have af:=f.sz
     clear a g)
   |(refine kF _ fY (by rfl) _ _ (by rfl) w _ (k+1) (ivs (xs.take k)++ [iv x]) (by rfl) j _ 0 _ (ivs []) (by rfl) (aQf _ _ (by unfold maxLen;omega)) (rN _) (by omega) (by omega) ?_
     intro p2 c2 w2 e l;have t:Ext w w2:=Ext.own f j l (aT5 _);have s:=xQ e
     clear e l)))
  all_goals go_wp2
  all_goals go_ret
  all_goals exact dO (by rw[d.out];simp;rw[hl.out]) (by rw[d.out];have:=s.out;rw[aTa (by rw[hl.out];exact aT5 _)]at this;simpa using this) t
theorem aF6 (xs:List Int):(xs.mergeSort fun x y=>decide (x≤y))=gJ xs:=by refine oR (List.mergeSort_perm _ _) ?_;have:=List.pairwise_mergeSort (le:=fun x y:Int=>decide (x≤y)) (fun a b c h1 h2=>by simp at*;omega) (fun a b=>by simp;omega) xs;simpa using this
theorem aNr (B:Nat)(p:OA)(n a:Nat)(xs:List Int)(w:World)(h:w.ownsRow B TI 1 (.slice p n a) n (ivs xs))(hn:n≤1000000):
  U 84 #[.slice p n a] w fun e w'=>e= .returned (.tuple #[])∧w'.ownsRow B TI 1 (.slice p n a) n (ivs (gJ xs))∧w.grownBy w' (Value.slice p n a).ownBlock:=by
 have hl:xs.length=n:=by have:=h.1;simpa using this
 subst hl;by_cases h0:xs.length=0
 ·obtain rfl:xs= []:=aU7 h0;refine(Tryz.slices_Sort_int_none p a w).mono ?_;rintro e w' ⟨rfl,rfl⟩;exact⟨rfl,h,aUs _ _⟩
 rcases h.2 with⟨h1,h2⟩|⟨g,cap',cur,h1,hb,hg,hnc,hm,hs,ht⟩
 ·exact absurd h2 h0
 injection h1 with e1 e2 e3;subst e1 e3;refine(Tryz.slices_Sort_int g 0 a xs w (Go.holds_of_blockI hg (by simpa using ht)) (aUg.1 hg).1 (by omega)).mono ?_;rintro e w' ⟨rfl,k,os,rfl⟩;rw[aF6];exact⟨rfl,Go.ownsRow_sortedI (aB3 xs) hb hg hnc hm hs,Go.grownBy_sortedI _⟩
theorem aW {w w':World}{B n sz:Nat}{e:TypeId}{v:Value}{xs:List Value}(ho:w.ownsRow B e sz v n xs)(h:Ext w w'):w'.ownsRow B e sz v n xs:=
 ho.kept (row:=none) ⟨h.os,h.tape,h.output,h.size,fun k hk _=>h.block k hk⟩ (by cases v.ownBlock<;>simp)
theorem bM {w:World}{B B' n sz:Nat}{e:TypeId}{v:Value}{xs:List Value}(h:w.ownsRow B e sz v n xs)(hb:B'≤B):w.ownsRow B' e sz v n xs:=by
 refine⟨h.1,?_⟩;rcases h.2 with h2|⟨g,a,b,e1,c,r⟩
 ·exact .inl h2
 exact .inr ⟨g,a,b,e1,aTg hb c,r⟩
theorem aHg (aA aB:Int)(p:OA)(n a:Nat)(w:World)(HV:xB 25 #[aH aA aB p n a] w false):
  U 24 #[aH aA aB p n a] w (bC [] w):=by
 go_enter func24,ntmps24;go_wp2_with fail;refine Z (HV _ (by exact .alloc (.alloc (.refl _) _) _)) fun w1 h1=>?_
 go_wp2;go_ret;have ho:((w.alloc (.cells #[aA,aB,.slice p n a] 25)).alloc (.cells #[] TI)).ownsRow w TI 1 (.slice (some ⟨(w.alloc (.cells #[aA,aB,.slice p n a] 25)).heap.size,0,none⟩) 0 0) 0 []:=aU5 _ #[] 0 (by simp) (by simp[maxLen]) rfl;exact dO rfl (by simpa using aW ho h1) (by exact .trans (.alloc (.alloc (.refl _) _) _) h1)
theorem aL3 (aA aB:Int)(p:OA)(n d:Nat)(xs:List Int)(w:World)(hn:n≤12)(HS:Hid (Sl w p n d 1 (ivs xs)))(HV:xB 25 #[aH aA aB p n d] w true):
  U 24 #[aH aA aB p n d] w (bC (cS xs) w):=by
 have hl:=xQ HS.out.ilen;go_enter func24,ntmps24;go_wp2_with fail;refine Z (HV _ (by exact .alloc (.alloc (.refl _) _) _)) fun w1 h1=>?_
 have ho:((w.alloc (.cells #[aA,aB,.slice p n d] 25)).alloc (.cells #[] TI)).ownsRow w TI 1 (.slice (some ⟨(w.alloc (.cells #[aA,aB,.slice p n d] 25)).heap.size,0,none⟩) 0 0) 0 []:=aU5 _ #[] 0 (by simp) (by simp[maxLen]) rfl;have l:=xQ (aW ho h1);have t:(w:Nat)<w1:=aT4 (by first|(simp;omega)|simp) h1.sz;have eb:w1.cell? ⟨w,2,none⟩=some (.slice p n d):=by rw[h1.cells.1 _ _ (by simp;omega)];simp
 have s:Ext w w1:=by exact .trans (.alloc (.alloc (.refl _) _) _) h1
 clear ho;go_wp2;go_loopw [3,4] (fun v i wr=> ∃(k:Nat) (q:OA) (m c:Nat),k≤n∧i=I k∧v= .slice q m c∧m≤k∧wr.ownsRow w TI 1 (.slice q m c) m (ivs (gJ (dL (xs.take k))))∧Ext w1 wr) (fun _ i _=>n-(intOf i).toNat)
 case atStart=>exact⟨0,_,0,0,aTd _,rfl,rfl,aT5 _,by simpa[dL,gJ]using l.out,Ext.refl _⟩
 case round=>
  obtain⟨k,q,m,c,hk,rfl,rfl,u,h,hE⟩:=hrel;have HO:=xQ h;have j:=s.trans hE;have ec:wr.cell? ⟨w,2,none⟩=some (.slice p n d):=(hE.cells.1 _ _ t).trans eb;clear h;by_cases hlt:k<n
  ·obtain⟨b,y,x,rfl,hx,hb,r⟩:=(HS.out.ext j).int_at hlt;have HX:=xQ hx;clear hx;by_cases hx0:0<x
   ·have a:Hid (gJ (dL (xs.take (k+1)))=mR x (gJ (dL (xs.take k)))):=by
     show _=_;rw[bA HX.out,nC,if_pos hx0,yJ]
    have HC:Hid (∀w',Ext wr w'→U 53 #[.slice q m c,x] w' (bC (mR x (gJ (dL (xs.take k)))) w')):=fun w' hx=>aD3 q m c _ x w' (by omega) ((Sl.own HO.out).ext hx)
    have g:(mR x (gJ (dL (xs.take k)))).length=m+1:=by rw[aOm];have:=HO.out.1;simp at this;omega
    have f:=xQ g;clear g;go_wp2_with fail;refine(HC _ (by exact .refl _)).mono ?_;rintro e w2 ⟨q2,c2,rfl,h2,h3⟩;have o:Hid (w2.ownsRow w TI 1 (.slice q2 (m+1) c2) (m+1) (ivs (gJ (dL (xs.take (k+1)))))):=by rw[a.out,←f.out];exact bM h2 j.sz
    rw[f.out];clear h2;go_wp2;go_roundw
    case rel=>exact⟨k+1,q2,m+1,c2,by omega,by go_num,rfl,by omega,o.out,by exact .trans hE h3⟩
    case measure=>simp[intOf];omega
   have a:Hid (gJ (dL (xs.take (k+1)))=gJ (dL (xs.take k))):=by show _=_;rw[bA HX.out,nC,if_neg hx0,aTv]
   go_wp2;go_roundw
   case rel=>exact⟨k+1,q,m,c,by omega,by go_num,rfl,by omega,by rw[a.out];exact HO.out,hE⟩
   case measure=>simp[intOf];omega
  have a:Hid (gJ (dL (xs.take k))=cS xs):=by show _=_;rw[aTa (by rw[hl.out];omega)];rfl
  go_wp2;go_ret;exact dO (by rw[←a.out];have:=HO.out.1;simpa using this) (by rw[←a.out];exact HO.out) j
theorem aIs (aA aB:Int)(p:OA)(n a:Nat)(w:World)(HV:xB 42 #[aH aA aB p n a] w false):
  U 44 #[aH aA aB p n a] w (bC [] w):=by
 go_enter func44,ntmps44;go_wp2_with fail;refine Z (HV _ (by exact .alloc (.refl _) _)) fun w1 h1=>?_
 go_wp2;go_ret;exact dO rfl (aTe _ _ _ _) (by exact .trans (.alloc (.refl _) _) h1)
theorem aM8 (aA aB:Int)(p:OA)(n f:Nat)(xs:List Int)(w:World)(hn:n≤12)(HS:Hid (Sl w p n f 1 (ivs xs)))(HV:xB 42 #[aH aA aB p n f] w true):
  U 44 #[aH aA aB p n f] w (bC (cS xs) w):=by
 have hl:=xQ HS.out.ilen;go_enter func44,ntmps44;go_wp2_with fail;refine Z (HV _ (by exact .alloc (.refl _) _)) fun w1 h1=>?_
 have eb:w1.cell? ⟨w,2,none⟩=some (.slice p n f):=by rw[h1.cells.1 _ _ (by simp)];simp
 have h:Ext w w1:=by exact .trans (.alloc (.refl _) _) h1
 go_wp2;go_loopw [3,12] (fun v i wr=> ∃(k:Nat) (q:OA) (m c:Nat),k≤n∧i=I k∧v= .slice q m c∧m≤k∧wr.ownsRow w1 TI 1 (.slice q m c) m (ivs (dL (xs.take k)))∧Ext w1 wr) (fun _ i _=>n-(intOf i).toNat)
 case atStart=>exact⟨0,none,0,0,aTd _,rfl,rfl,aT5 _,aTe _ _ _ _,Ext.refl _⟩
 case round=>
  obtain⟨k,q,m,c,hk,rfl,rfl,aa,g,hE⟩:=hrel;have HO:=xQ g;have o:=h.trans hE;have ab:=hE.sz;have z:=h.sz;clear g;by_cases hlt:k<n
  ·obtain⟨b,ad,x,rfl,hx,hb,y⟩:=(HS.out.ext o).int_at hlt;have HX:=xQ hx;clear hx;by_cases hx0:0<x
   ·have a:Hid (dL (xs.take (k+1))=dL (xs.take k)++ [x]):=by
     show _=_;rw[bA HX.out,nC,if_pos hx0]
    go_wp2_with (at_builtin;refine cW fY rfl _ _ rfl w1 _ _ _ rfl (HO.out.alloc _) _ _ x _ rfl (by simp) (by omega) (by simp;omega) ?_;intro p' l w2 d r;have s:=xQ d;have t:Ext w1 w2:=Ext.own (hE.alloc _) (HO.out.alloc _) r (aT5 _);clear d r);go_roundw
    case rel=>exact⟨k+1,p',m+1,l,by omega,by go_num,rfl,by omega,by rw[a.out];exact s.out,t⟩
    case measure=>simp[intOf];omega
   have a:Hid (dL (xs.take (k+1))=dL (xs.take k)):=by show _=_;rw[bA HX.out,nC,if_neg hx0,aTv]
   go_wp2;go_roundw
   case rel=>exact⟨k+1,q,m,c,by omega,by go_num,rfl,by omega,by rw[a.out];exact HO.out,hE⟩
   case measure=>simp[intOf];omega
  have a:Hid (gJ (dL (xs.take k))=cS xs):=by show _=_;rw[aTa (by rw[hl.out];omega)];rfl
  go_wp2_with fail;refine(aNr w1 q m c _ _ HO (by omega)).mono ?_;rintro e w2 ⟨rfl,h2,h3⟩;have u:Ext w w2:=o.own HO h3 (by omega);have j:=xQ h2;clear h2 h3;go_wp2;go_ret;exact dO (by rw[←a.out];have:=j.out.1;simpa using this) (by rw[←a.out];exact bM j h.sz) u
theorem aRw (aA aB:Int)(p:OA)(n a:Nat)(xs:List Int)(w:World)(hS:Sl w p n a 1 (ivs xs)):U 24 #[aH aA aB p n a] w (bC (if aN aA aB xs then cS xs else []) w):=by
 have hl:=hS.ilen;cases h:aN aA aB xs with
 |true=>
  have h2:iC aA aB n=true:=by simp only[aN,aTf]at h;rw[←hl];exact h.1
  rw[if_pos rfl];exact aL3 aA aB p n a xs w (cG h2).2.2.2.2.2.1 hS (fun w' hx=>by rw[←h];exact gM aA aB p n a xs w' (hS.ext hx))
 |false=>rw[if_neg (by simp)];exact aHg aA aB p n a w (fun w' hx=>by rw[←h];exact gM aA aB p n a xs w' (hS.ext hx))
theorem aOz (aA aB:Int)(p:OA)(n a:Nat)(xs:List Int)(w:World)(hS:Sl w p n a 1 (ivs xs)):U 44 #[aH aA aB p n a] w (bC (if aN aA aB xs then cS xs else []) w):=by
 have hl:=hS.ilen;cases h:aN aA aB xs with
 |true=>
  have h2:iC aA aB n=true:=by simp only[aN,aTf]at h;rw[←hl];exact h.1
  rw[if_pos rfl];exact aM8 aA aB p n a xs w (cG h2).2.2.2.2.2.1 hS (fun w' hx=>by rw[←h];exact gU aA aB p n a xs w' (hS.ext hx))
 |false=>rw[if_neg (by simp)];exact aIs aA aB p n a w (fun w' hx=>by rw[←h];exact gU aA aB p n a xs w' (hS.ext hx))
end
end Go.Proofs.YthfmmibomhhmpaaGreatDoor
