/-
  Texts of this proof, packed (@packed).
-/
import Derived.Sort.OwnSortedInts
import Derived.Test.YtomgkjinhnkpnaaGreatDoorXS
import Derived.Test.YtomgkjinhnkpnaaGreatDoorX5
namespace Go.Proofs.YtomgkjinhnkpnaaGreatDoor
open Go.RowKit
set_option linter.unusedSimpArgs false
set_option linter.unusedVariables false
set_option maxHeartbeats 8000000
set_option maxRecDepth 100000
section
open Go.Proofs.Tryz
theorem yG (f s p c i pd a now:Int)(w:World)(h:bE f s p c=true)(h2:dC i pd a=true)(h3:a≤now)(h4:now≤9999):U 99 #[aP f s p c,bU i pd a,now] w (O (I (cA f s p c i pd a now)) w):=by
 obtain⟨b1,b2,b3,b4,b5,b6⟩:=fS h2;have HT:Hid (∀w,U 38 #[aP f s p c] w (O (.bool true) w)):=fun w=>by rw[←h];exact aCa f s p c w
 have HS:Hid (∀w,U 40 #[bU i pd a] w (O (.bool true) w)):=fun w=>by rw[←h2];exact aNg i pd a w
 obtain⟨q,hq⟩: ∃q,q=nQ f s p c (now-i):=⟨_,rfl⟩
 have o:0≤q∧q≤693:=by rw[hq];exact pY h (by omega) (by omega)
 have HF:Hid (∀w,U 138 #[aP f s p c,(now-i:Int)] w (O (I q) w)):=fun w=>by rw[hq];exact aQm f s p c _ w h (by omega) (by omega)
 have j:cA f s p c i pd a now=max (q-pd) 0:=by rw[hq];simp[cA,h,h2,h3,h4]
 rw[j];clear hq j h h2;go_enter func99,ntmps99;go_wp2_with fail;refine Z (HT _) fun w1 b=>?_
 have k:(w:Nat)<w1:=aRf (by simp;omega) b.sz;have l:w.heap.size+1<w1.heap.size:=aRf (by simp) b.sz;have e0:w1.cell? ⟨w,0,none⟩=some (I f):=by rw[b.cells.1 _ _ (by simp;omega)];simp
 have e1:w1.cell? ⟨w,1,none⟩=some (I s):=by rw[b.cells.1 _ _ (by simp;omega)];simp
 have e2:w1.cell? ⟨w,2,none⟩=some (I p):=by rw[b.cells.1 _ _ (by simp;omega)];simp
 have e3:w1.cell? ⟨w,3,none⟩=some (I c):=by rw[b.cells.1 _ _ (by simp;omega)];simp
 have g0:w1.cell? ⟨w.heap.size+1,0,none⟩=some (I i):=by rw[b.cells.1 _ _ (by simp)];simp
 have g1:w1.cell? ⟨w.heap.size+1,1,none⟩=some (I pd):=by rw[b.cells.1 _ _ (by simp)];simp
 have g2:w1.cell? ⟨w.heap.size+1,2,none⟩=some (I a):=by rw[b.cells.1 _ _ (by simp)];simp
 go_wp2_with (first|(go_at_call 40;refine Z (HS _) fun w2 g=>?_;have m:=g.cells.1;have r:(w:Nat)<w2:=aRf k g.sz;have t:w.heap.size+1<w2.heap.size:=aRf l g.sz)|go_in);have k1:IntKind.i64.wrap (now-i)=now-i:=aRj _ (by omega);have k2:IntKind.i64.wrap (q-pd)=q-pd:=aRj _ (by omega)
 go_region_held3 (fun w'=>w'.cell? ⟨w,0,none⟩=some (I f)∧w'.cell? ⟨w,1,none⟩=some (I s)∧w'.cell? ⟨w,2,none⟩=some (I p)∧w'.cell? ⟨w,3,none⟩=some (I c)∧w'.cell? ⟨w.heap.size+1,0,none⟩=some (I i)∧w'.cell? ⟨w.heap.size+1,1,none⟩=some (I pd)) (go_keep)
  ((go_at_call 138;refine Z (HF _) fun w3 d=>?_;(try replace d:=d.of_drew);have n:=d.cells.1;have u:(w:Nat)<w3:=aRf (by assumption) d.sz;have v:w.heap.size+1<w3.heap.size:=aRf (by assumption) d.sz))
 all_goals clear k1 k2
 all_goals go_wp2
 all_goals go_ret
 all_goals exact⟨eO (by omega),by exact .trans (.trans (.trans (.alloc (.alloc (.refl _) _) _) b) g) d⟩
theorem aBj (f s p c i pd a now:Int)(w:World)(h:bE f s p c=true)(h2:dC i pd a=true)(h3:a≤now)(h4:now≤9999):U 117 #[aP f s p c,bU i pd a,now] w (O (I (cA f s p c i pd a now)) w):=by
 obtain⟨b1,b2,b3,b4,b5,b6⟩:=fS h2;have HT:Hid (∀w,U 30 #[aP f s p c] w (O (.bool true) w)):=fun w=>by rw[←h];exact xD f s p c w
 have HS:Hid (∀w,U 32 #[bU i pd a] w (O (.bool true) w)):=fun w=>by rw[←h2];exact aLz i pd a w
 obtain⟨q,hq⟩: ∃q,q=nQ f s p c (now-i):=⟨_,rfl⟩
 have o:0≤q∧q≤693:=by rw[hq];exact pY h (by omega) (by omega)
 have HF:Hid (∀w,U 148 #[aP f s p c,(now-i:Int)] w (O (I q) w)):=fun w=>by rw[hq];exact aQ8 f s p c _ w h (by omega) (by omega)
 have j:cA f s p c i pd a now=max (q-pd) 0:=by rw[hq];simp[cA,h,h2,h3,h4]
 rw[j];clear hq j h h2;go_enter func117,ntmps117;go_wp2_with fail;refine Z (HT _) fun w1 b=>?_
 have k:(w:Nat)<w1:=aRf (by simp;omega) b.sz;have l:w.heap.size+1<w1.heap.size:=aRf (by simp) b.sz;have e0:w1.cell? ⟨w,0,none⟩=some (I f):=by rw[b.cells.1 _ _ (by simp;omega)];simp
 have e1:w1.cell? ⟨w,1,none⟩=some (I s):=by rw[b.cells.1 _ _ (by simp;omega)];simp
 have e2:w1.cell? ⟨w,2,none⟩=some (I p):=by rw[b.cells.1 _ _ (by simp;omega)];simp
 have e3:w1.cell? ⟨w,3,none⟩=some (I c):=by rw[b.cells.1 _ _ (by simp;omega)];simp
 have g0:w1.cell? ⟨w.heap.size+1,0,none⟩=some (I i):=by rw[b.cells.1 _ _ (by simp)];simp
 have g1:w1.cell? ⟨w.heap.size+1,1,none⟩=some (I pd):=by rw[b.cells.1 _ _ (by simp)];simp
 have g2:w1.cell? ⟨w.heap.size+1,2,none⟩=some (I a):=by rw[b.cells.1 _ _ (by simp)];simp
 go_wp2_with (first|(go_at_call 32;refine Z (HS _) fun w2 g=>?_;have m:=g.cells.1;have r:(w:Nat)<w2:=aRf k g.sz;have t:w.heap.size+1<w2.heap.size:=aRf l g.sz)|go_in);have k1:IntKind.i64.wrap (now-i)=now-i:=aRj _ (by omega);have k2:IntKind.i64.wrap (q-pd)=q-pd:=aRj _ (by omega)
 go_region_held3 (fun w'=>w'.cell? ⟨w,0,none⟩=some (I f)∧w'.cell? ⟨w,1,none⟩=some (I s)∧w'.cell? ⟨w,2,none⟩=some (I p)∧w'.cell? ⟨w,3,none⟩=some (I c)∧w'.cell? ⟨w.heap.size+1,0,none⟩=some (I i)∧w'.cell? ⟨w.heap.size+1,1,none⟩=some (I pd)) (go_keep)
  ((go_at_call 148;refine Z (HF _) fun w3 d=>?_;(try replace d:=d.of_drew);have n:=d.cells.1;have u:(w:Nat)<w3:=aRf (by assumption) d.sz;have v:w.heap.size+1<w3.heap.size:=aRf (by assumption) d.sz))
 all_goals clear k1 k2
 all_goals go_wp2
 all_goals go_ret
 all_goals exact⟨eO (by omega),by exact .trans (.trans (.trans (.alloc (.alloc (.refl _) _) _) b) g) d⟩
theorem aNn (f s p c i pd a now d1 d2:Int)(w:World)(h0:0≤d1)(h2:0≤d2)(h3:a≤now)(h4:now≤9999)(h5:0≤a)(t1:(d1==0)=true)
  (HA:Hid (∀w,U 99 #[aP f s p c,bU i pd a,now] w (O (I d1) w)))
  (HB:Hid (∀w,U 99 #[aP f s p c,bU i pd a,a] w (O (I d2) w))):
  U 104 #[aP f s p c,bU i pd a,now] w (O (.bool true) w):=by
 go_enter func104,ntmps104;go_wp2_with fail;refine Z (HA _) fun w1 b=>?_
 have g:(w:Nat)<w1:=aRf (by simp;omega) b.sz;have h:w.heap.size+1<w1.heap.size:=aRf (by simp) b.sz;have d:=b.cells.1;go_wp2;go_ret;exact⟨aR (by first|rfl|(simp;omega)),by exact .trans (.alloc (.alloc (.refl _) _) _) b⟩
theorem aNm (f s p c i pd a now d1 d2:Int)(w:World)(h0:0≤d1)(h2:0≤d2)(h3:a≤now)(h4:now≤9999)(h5:0≤a)(t1:(d1==0)=false)(t2:15<now-a)(t3:(d2==0)=true)
  (HA:Hid (∀w,U 99 #[aP f s p c,bU i pd a,now] w (O (I d1) w)))
  (HB:Hid (∀w,U 99 #[aP f s p c,bU i pd a,a] w (O (I d2) w))):
  U 104 #[aP f s p c,bU i pd a,now] w (O (.bool false) w):=by
 go_enter func104,ntmps104;go_wp2_with fail;refine Z (HA _) fun w1 b=>?_
 have g:(w:Nat)<w1:=aRf (by simp;omega) b.sz;have h:w.heap.size+1<w1.heap.size:=aRf (by simp) b.sz;have d:=b.cells.1;go_wp2;go_ret;exact⟨aR (by first|rfl|(simp;omega)),by exact .trans (.alloc (.alloc (.refl _) _) _) b⟩
theorem aNl (f s p c i pd a now d1 d2:Int)(w:World)(h0:0≤d1)(h2:0≤d2)(h3:a≤now)(h4:now≤9999)(h5:0≤a)(t1:(d1==0)=false)(t2:now-a≤15)(t3:(d2==0)=true)
  (HA:Hid (∀w,U 99 #[aP f s p c,bU i pd a,now] w (O (I d1) w)))
  (HB:Hid (∀w,U 99 #[aP f s p c,bU i pd a,a] w (O (I d2) w))):
  U 104 #[aP f s p c,bU i pd a,now] w (O (.bool true) w):=by
 go_enter func104,ntmps104;go_wp2_with fail;refine Z (HA _) fun w1 b=>?_
 have g:(w:Nat)<w1:=aRf (by simp;omega) b.sz;have h:w.heap.size+1<w1.heap.size:=aRf (by simp) b.sz;have j:=b.cells.1;go_wp2_with fail;refine Z (HB _) fun w2 d=>?_
 have l:=aRf g d.sz;have m:=aRf h d.sz;have k:=d.cells.1;go_wp2;go_ret;exact⟨aR (by first|rfl|(simp;omega)),by exact .trans (.trans (.alloc (.alloc (.refl _) _) _) b) d⟩
theorem aNk (f s p c i pd a now d1 d2:Int)(w:World)(h0:0≤d1)(h2:0≤d2)(h3:a≤now)(h4:now≤9999)(h5:0≤a)(t1:(d1==0)=false)(t2:15<now-a)(t3:(d2==0)=false)
  (HA:Hid (∀w,U 99 #[aP f s p c,bU i pd a,now] w (O (I d1) w)))
  (HB:Hid (∀w,U 99 #[aP f s p c,bU i pd a,a] w (O (I d2) w))):
  U 104 #[aP f s p c,bU i pd a,now] w (O (.bool false) w):=by
 go_enter func104,ntmps104;go_wp2_with fail;refine Z (HA _) fun w1 b=>?_
 have g:(w:Nat)<w1:=aRf (by simp;omega) b.sz;have h:w.heap.size+1<w1.heap.size:=aRf (by simp) b.sz;have d:=b.cells.1;go_wp2;go_ret;exact⟨aR (by first|rfl|(simp;omega)),by exact .trans (.alloc (.alloc (.refl _) _) _) b⟩
theorem aNj (f s p c i pd a now d1 d2:Int)(w:World)(h0:0≤d1)(h2:0≤d2)(h3:a≤now)(h4:now≤9999)(h5:0≤a)(t1:(d1==0)=false)(t2:now-a≤15)(t3:(d2==0)=false)
  (HA:Hid (∀w,U 99 #[aP f s p c,bU i pd a,now] w (O (I d1) w)))
  (HB:Hid (∀w,U 99 #[aP f s p c,bU i pd a,a] w (O (I d2) w))):
  U 104 #[aP f s p c,bU i pd a,now] w (O (.bool false) w):=by
 go_enter func104,ntmps104;go_wp2_with fail;refine Z (HA _) fun w1 b=>?_
 have g:(w:Nat)<w1:=aRf (by simp;omega) b.sz;have h:w.heap.size+1<w1.heap.size:=aRf (by simp) b.sz;have j:=b.cells.1;go_wp2_with fail;refine Z (HB _) fun w2 d=>?_
 have l:=aRf g d.sz;have m:=aRf h d.sz;have k:=d.cells.1;go_wp2;go_ret;exact⟨aR (by first|rfl|(simp;omega)),by exact .trans (.trans (.alloc (.alloc (.refl _) _) _) b) d⟩
theorem aQi (f s p c i pd a now:Int)(w:World)(h:bE f s p c=true)(h2:dC i pd a=true)(h3:a≤now)(h4:now≤9999):U 104 #[aP f s p c,bU i pd a,now] w (O (.bool (lZ f s p c i pd a now)) w):=by
 obtain⟨b1,b2,b3,b4,b5,b6⟩:=fS h2;have e1:0≤cA f s p c i pd a now:=by unfold cA;rw[if_pos (by simp[h,h2,h3,h4])];omega
 have e2:0≤cA f s p c i pd a a:=by unfold cA;rw[if_pos (by simp[h,h2];omega)];omega
 have hr:lZ f s p c i pd a now=(decide (cA f s p c i pd a now=0) || (decide (now-a≤15)&&decide (cA f s p c i pd a a=0))):=by simp[lZ,e1]
 have hA:=fun w=>yG f s p c i pd a now w h h2 h3 h4
 have hB:=fun w=>yG f s p c i pd a a w h h2 (by omega) b6
 rw[hr];generalize cA f s p c i pd a now=d1 at*;generalize cA f s p c i pd a a=d2 at*;by_cases t1:d1=0
 ·rw[show(decide (d1=0) || (decide (now-a≤15)&&decide (d2=0)))=true by simp[t1]];exact aNn f s p c i pd a now d1 d2 w e1 e2 h3 h4 (by omega) (by simp[t1]) hA hB
 by_cases t2:now-a≤15
 ·by_cases t3:d2=0
  ·rw[show(decide (d1=0) || (decide (now-a≤15)&&decide (d2=0)))=true by simp[t2,t3]];exact aNl f s p c i pd a now d1 d2 w e1 e2 h3 h4 (by omega) (by simp[t1]) t2 (by simp[t3]) hA hB
  rw[show(decide (d1=0) || (decide (now-a≤15)&&decide (d2=0)))=false by simp[t1,t3]];exact aNj f s p c i pd a now d1 d2 w e1 e2 h3 h4 (by omega) (by simp[t1]) t2 (by simp[t3]) hA hB
 by_cases t3:d2=0
 ·rw[show(decide (d1=0) || (decide (now-a≤15)&&decide (d2=0)))=false by simp[t1,t2]];exact aNm f s p c i pd a now d1 d2 w e1 e2 h3 h4 (by omega) (by simp[t1]) (by omega) (by simp[t3]) hA hB
 rw[show(decide (d1=0) || (decide (now-a≤15)&&decide (d2=0)))=false by simp[t1,t2]];exact aNk f s p c i pd a now d1 d2 w e1 e2 h3 h4 (by omega) (by simp[t1]) (by omega) (by simp[t3]) hA hB
theorem aM8 (f s p c i pd a now d1 d2:Int)(w:World)(h0:0≤d1)(h2:0≤d2)(h3:a≤now)(h4:now≤9999)(h5:0≤a)(t1:(d1==0)=true)
  (HA:Hid (∀w,U 117 #[aP f s p c,bU i pd a,now] w (O (I d1) w)))
  (HB:Hid (∀w,U 117 #[aP f s p c,bU i pd a,a] w (O (I d2) w))):
  U 112 #[aP f s p c,bU i pd a,now] w (O (.bool true) w):=by
 go_enter func112,ntmps112;go_wp2_with fail;refine Z (HA _) fun w1 b=>?_
 have g:(w:Nat)<w1:=aRf (by simp;omega) b.sz;have h:w.heap.size+1<w1.heap.size:=aRf (by simp) b.sz;have j:=b.cells.1;go_wp2_with fail;refine Z (HA _) fun w2 d=>?_
 have l:=aRf g d.sz;have m:=aRf h d.sz;have k:=d.cells.1;go_wp2;go_ret;exact⟨aR (by first|rfl|(simp;omega)),by exact .trans (.trans (.alloc (.alloc (.refl _) _) _) b) d⟩
theorem aM7 (f s p c i pd a now d1 d2:Int)(w:World)(h0:0≤d1)(h2:0≤d2)(h3:a≤now)(h4:now≤9999)(h5:0≤a)(t1:(d1==0)=false)(t2:15<now-a)(t3:(d2==0)=true)
  (HA:Hid (∀w,U 117 #[aP f s p c,bU i pd a,now] w (O (I d1) w)))
  (HB:Hid (∀w,U 117 #[aP f s p c,bU i pd a,a] w (O (I d2) w))):
  U 112 #[aP f s p c,bU i pd a,now] w (O (.bool false) w):=by
 go_enter func112,ntmps112;go_wp2_with fail;refine Z (HA _) fun w1 b=>?_
 have h:(w:Nat)<w1:=aRf (by simp;omega) b.sz;have j:w.heap.size+1<w1.heap.size:=aRf (by simp) b.sz;have m:=b.cells.1;go_wp2_with fail;refine Z (HA _) fun w2 d=>?_
 have k:=aRf h d.sz;have l:=aRf j d.sz;have n:=d.cells.1;go_wp2_with fail;refine Z (HB _) fun w3 g=>?_
 have q:=aRf k g.sz;have r:=aRf l g.sz;have o:=g.cells.1;go_wp2;go_ret;exact⟨aR (by first|rfl|(simp;omega)),by exact .trans (.trans (.trans (.alloc (.alloc (.refl _) _) _) b) d) g⟩
theorem aM6 (f s p c i pd a now d1 d2:Int)(w:World)(h0:0≤d1)(h2:0≤d2)(h3:a≤now)(h4:now≤9999)(h5:0≤a)(t1:(d1==0)=false)(t2:now-a≤15)(t3:(d2==0)=true)
  (HA:Hid (∀w,U 117 #[aP f s p c,bU i pd a,now] w (O (I d1) w)))
  (HB:Hid (∀w,U 117 #[aP f s p c,bU i pd a,a] w (O (I d2) w))):
  U 112 #[aP f s p c,bU i pd a,now] w (O (.bool true) w):=by
 go_enter func112,ntmps112;go_wp2_with fail;refine Z (HA _) fun w1 b=>?_
 have h:(w:Nat)<w1:=aRf (by simp;omega) b.sz;have j:w.heap.size+1<w1.heap.size:=aRf (by simp) b.sz;have m:=b.cells.1;go_wp2_with fail;refine Z (HA _) fun w2 d=>?_
 have k:=aRf h d.sz;have l:=aRf j d.sz;have n:=d.cells.1;go_wp2_with fail;refine Z (HB _) fun w3 g=>?_
 have q:=aRf k g.sz;have r:=aRf l g.sz;have o:=g.cells.1;go_wp2;go_ret;exact⟨aR (by first|rfl|(simp;omega)),by exact .trans (.trans (.trans (.alloc (.alloc (.refl _) _) _) b) d) g⟩
theorem aM5 (f s p c i pd a now d1 d2:Int)(w:World)(h0:0≤d1)(h2:0≤d2)(h3:a≤now)(h4:now≤9999)(h5:0≤a)(t1:(d1==0)=false)(t2:15<now-a)(t3:(d2==0)=false)
  (HA:Hid (∀w,U 117 #[aP f s p c,bU i pd a,now] w (O (I d1) w)))
  (HB:Hid (∀w,U 117 #[aP f s p c,bU i pd a,a] w (O (I d2) w))):
  U 112 #[aP f s p c,bU i pd a,now] w (O (.bool false) w):=by
 go_enter func112,ntmps112;go_wp2_with fail;refine Z (HA _) fun w1 b=>?_
 have h:(w:Nat)<w1:=aRf (by simp;omega) b.sz;have j:w.heap.size+1<w1.heap.size:=aRf (by simp) b.sz;have m:=b.cells.1;go_wp2_with fail;refine Z (HA _) fun w2 d=>?_
 have k:=aRf h d.sz;have l:=aRf j d.sz;have n:=d.cells.1;go_wp2_with fail;refine Z (HB _) fun w3 g=>?_
 have q:=aRf k g.sz;have r:=aRf l g.sz;have o:=g.cells.1;go_wp2;go_ret;exact⟨aR (by first|rfl|(simp;omega)),by exact .trans (.trans (.trans (.alloc (.alloc (.refl _) _) _) b) d) g⟩
theorem aM4 (f s p c i pd a now d1 d2:Int)(w:World)(h0:0≤d1)(h2:0≤d2)(h3:a≤now)(h4:now≤9999)(h5:0≤a)(t1:(d1==0)=false)(t2:now-a≤15)(t3:(d2==0)=false)
  (HA:Hid (∀w,U 117 #[aP f s p c,bU i pd a,now] w (O (I d1) w)))
  (HB:Hid (∀w,U 117 #[aP f s p c,bU i pd a,a] w (O (I d2) w))):
  U 112 #[aP f s p c,bU i pd a,now] w (O (.bool false) w):=by
 go_enter func112,ntmps112;go_wp2_with fail;refine Z (HA _) fun w1 b=>?_
 have h:(w:Nat)<w1:=aRf (by simp;omega) b.sz;have j:w.heap.size+1<w1.heap.size:=aRf (by simp) b.sz;have m:=b.cells.1;go_wp2_with fail;refine Z (HA _) fun w2 d=>?_
 have k:=aRf h d.sz;have l:=aRf j d.sz;have n:=d.cells.1;go_wp2_with fail;refine Z (HB _) fun w3 g=>?_
 have q:=aRf k g.sz;have r:=aRf l g.sz;have o:=g.cells.1;go_wp2;go_ret;exact⟨aR (by first|rfl|(simp;omega)),by exact .trans (.trans (.trans (.alloc (.alloc (.refl _) _) _) b) d) g⟩
theorem aQ4 (f s p c i pd a now:Int)(w:World)(h:bE f s p c=true)(h2:dC i pd a=true)(h3:a≤now)(h4:now≤9999):U 112 #[aP f s p c,bU i pd a,now] w (O (.bool (lZ f s p c i pd a now)) w):=by
 obtain⟨b1,b2,b3,b4,b5,b6⟩:=fS h2;have e1:0≤cA f s p c i pd a now:=by unfold cA;rw[if_pos (by simp[h,h2,h3,h4])];omega
 have e2:0≤cA f s p c i pd a a:=by unfold cA;rw[if_pos (by simp[h,h2];omega)];omega
 have hr:lZ f s p c i pd a now=(decide (cA f s p c i pd a now=0) || (decide (now-a≤15)&&decide (cA f s p c i pd a a=0))):=by simp[lZ,e1]
 have hA:=fun w=>aBj f s p c i pd a now w h h2 h3 h4
 have hB:=fun w=>aBj f s p c i pd a a w h h2 (by omega) b6
 rw[hr];generalize cA f s p c i pd a now=d1 at*;generalize cA f s p c i pd a a=d2 at*;by_cases t1:d1=0
 ·rw[show(decide (d1=0) || (decide (now-a≤15)&&decide (d2=0)))=true by simp[t1]];exact aM8 f s p c i pd a now d1 d2 w e1 e2 h3 h4 (by omega) (by simp[t1]) hA hB
 by_cases t2:now-a≤15
 ·by_cases t3:d2=0
  ·rw[show(decide (d1=0) || (decide (now-a≤15)&&decide (d2=0)))=true by simp[t2,t3]];exact aM6 f s p c i pd a now d1 d2 w e1 e2 h3 h4 (by omega) (by simp[t1]) t2 (by simp[t3]) hA hB
  rw[show(decide (d1=0) || (decide (now-a≤15)&&decide (d2=0)))=false by simp[t1,t3]];exact aM4 f s p c i pd a now d1 d2 w e1 e2 h3 h4 (by omega) (by simp[t1]) t2 (by simp[t3]) hA hB
 by_cases t3:d2=0
 ·rw[show(decide (d1=0) || (decide (now-a≤15)&&decide (d2=0)))=false by simp[t1,t2]];exact aM7 f s p c i pd a now d1 d2 w e1 e2 h3 h4 (by omega) (by simp[t1]) (by omega) (by simp[t3]) hA hB
 rw[show(decide (d1=0) || (decide (now-a≤15)&&decide (d2=0)))=false by simp[t1,t2]];exact aM5 f s p c i pd a now d1 d2 w e1 e2 h3 h4 (by omega) (by simp[t1]) (by omega) (by simp[t3]) hA hB
end
def mB (x:Int):List Int→List Int
 | []=> [x]
 |y::ys=>if y<x then y::mB x ys else x::y::ys
def gC (xs:List Int):List Int:=xs.foldl (fun acc x=>mB x acc) []
def dK (xs:List Int):List Int:=xs.filter (fun x=>decide (0<x))
def dR (xs:List Int):List Int:=gC (dK xs)
theorem nO (x:Int): ∀xs,List.Perm (mB x xs) (x::xs):=by
 intro xs;induction xs with
 |nil=>exact List.Perm.refl _
 |cons y ys ih=>
  unfold mB;split
  ·exact(List.Perm.cons y ih).trans (List.Perm.swap x y ys)
  exact List.Perm.refl _
theorem vM (x:Int): ∀xs,xs.Pairwise (·≤ ·)→(mB x xs).Pairwise (·≤ ·):=by
 intro xs;induction xs with
 |nil=>intro _;simp[mB]
 |cons y ys ih=>
  intro h;rw[List.pairwise_cons]at h;unfold mB;split
  ·rename_i hlt;rw[List.pairwise_cons];refine⟨fun z hz=> ?_,ih h.2⟩;rcases aRv.1 ((nO x ys).mem_iff.1 hz)with rfl|hz
   ·omega
   exact h.1 z hz
  rename_i hge;rw[List.pairwise_cons,List.pairwise_cons];refine⟨fun z hz=> ?_,h⟩;rcases aRv.1 hz with rfl|hz
  ·omega
  have:=h.1 z hz;omega
theorem xJ (xs:List Int)(x:Int):gC (xs++ [x])=mB x (gC xs):=by simp[gC,List.foldl_append]
theorem aDq (xs:List Int):List.Perm (gC xs) xs∧(gC xs).Pairwise (·≤ ·):=by
 suffices h: ∀(n:Nat) (xs:List Int),xs.length=n→List.Perm (gC xs) xs∧(gC xs).Pairwise (·≤ ·)from h _ xs rfl
 intro n;induction n with
 |zero=>intro xs h;obtain rfl:=aSi h;simp[gC]
 |succ n ih=>
  intro xs h;have a:xs≠ []:=by intro e;rw[e]at h;simp at h
  rw[←List.dropLast_concat_getLast a,xJ];obtain⟨h1,h2⟩:=ih xs.dropLast (by simp[h]);refine⟨?_,vM _ _ h2⟩;exact(nO _ _).trans ((List.Perm.cons _ h1).trans (List.perm_append_singleton _ _).symm)
theorem iC (xs:List Int):List.Perm (gC xs) xs:=(aDq xs).1
theorem lJ (xs:List Int):(gC xs).Pairwise (·≤ ·):=(aDq xs).2
theorem aAf (xs:List Int):(gC xs).length=xs.length:=(iC xs).length_eq
theorem mN (xs:List Int)(x:Int):dK (xs++ [x])=dK xs++(if 0<x then [x]else []):=by unfold dK;rw[aSd];congr 1;by_cases h:0<x<;>simp[h]
theorem kL (xs:List Int):(dK xs).length≤xs.length:=aSl _ _
theorem jC (xs:List Int):(dR xs).length=(dK xs).length:=aAf _
theorem oC {xs ys:List Int}(h:List.Perm ys xs)(hs:ys.Pairwise (·≤ ·)):ys=gC xs:=
 List.Perm.eq_of_pairwise (fun a b _ _ h1 h2=>Int.le_antisymm h1 h2) hs (lJ xs) (h.trans (iC xs).symm)
abbrev aQ:=Int×Int×Int×Int
def aE (v:aQ):List Value:= [.int .i64 v.1,.int .i64 v.2.1,.int .i64 v.2.2.1,.int .i64 v.2.2.2]
structure aM where
 aA:Int
 aB:Int
 cells:List Int
 free:Int
 step:Int
 aD:Int
 aF:Int
 aC:Int
 aG:Int
 vs:List aQ
def fJ (aC:Int)(v:aQ):Bool:=dC v.2.1 v.2.2.1 v.2.2.2&&decide (v.2.2.2≤aC)
def bY (aC:Int):List Int→List aQ→Bool
 | [],[]=>true
 |c::cs,v::vs=>decide (v.1=c)&&fJ aC v&&bY aC cs vs
 |_,_=>false
def rU (h:aM):Bool:=decide (0≤h.aC∧h.aC≤9999∧0≤h.aG∧h.aG≤99999)
def aS (h:aM):Bool:=aN h.aA h.aB h.cells&&bE h.free h.step h.aD h.aF&&rU h&&bY h.aC (dR h.cells) h.vs
def jL:aM:=⟨0,0,[],0,0,0,0,0,0,[]⟩
theorem vD {aC:Int}{cs:List Int}{vs:List aQ}{k:Nat}{c:Int}{v:aQ}(hc:cs[k]? =some c) (hv:vs[k]? =some v):
  bY aC (cs.drop k) (vs.drop k)=(decide (v.1=c)&&fJ aC v&&bY aC (cs.drop (k+1)) (vs.drop (k+1))):=by
 rw[rC hc,rC hv];rfl
theorem jS {aC:Int}: ∀ {cs:List Int} {vs:List aQ},bY aC cs vs=true→vs.map (·.1)=cs∧ ∀v∈vs,fJ aC v=true:=by
 intro cs;induction cs with
 |nil=>intro vs h;cases vs with
  |nil=>simp
  |cons v vs=>simp[bY]at h
 |cons c cs ih=>
  intro vs h;cases vs with
  |nil=>simp[bY]at h
  |cons v vs=>
   simp only[bY,aRr,decide_eq_true_eq]at h;obtain⟨⟨h1,h2⟩,h3⟩:=h;obtain⟨i1,i2⟩:=ih h3;refine⟨by simp[h1,i1],fun x hx=> ?_⟩;rcases aRv.1 hx with rfl|hx
   ·exact h2
   exact i2 x hx
theorem vC {aC:Int}{cs:List Int}{vs:List aQ}(h:cs.length≠vs.length):bY aC cs vs=false:=by
 cases hh:bY aC cs vs with
 |false=>rfl
 |true=>have:=congrArg List.length (jS hh).1;simp at this;omega
def dP (id:Int)(vs:List aQ):Option aQ:=vs.find? (fun v=>v.1==id)
def cR (h:aM)(id:Int):Option (Int×Int×Int):=if aS h then(dP id h.vs).map (·.2)else none
def aY (h:aM)(id:Int):Int:=match cR h id with
 |some s=>cA h.free h.step h.aD h.aF s.1 s.2.1 s.2.2 h.aC
 |none=> -1
def dD (h:aM)(id:Int):Bool:=match cR h id with
 |some s=>lZ h.free h.step h.aD h.aF s.1 s.2.1 s.2.2 h.aC
 |none=>false
def qC (h:aM)(v:aQ):Int:=cA h.free h.step h.aD h.aF v.2.1 v.2.2.1 v.2.2.2 h.aC
def wO (h:aM)(vs:List aQ):Int:=vs.foldl (fun a v=>a+qC h v) 0
def iP (h:aM):Int:=if aS h then wO h h.vs else -1
def dJ (h:aM):List Int:=if aS h then
  (if(0:Int)∈h.cells then dR h.cells else h.cells.headD 0::(dR h.cells).filter (fun x=>x !=h.cells.headD 0))else []
section
open Go.Proofs.Tryz
abbrev TI:TypeId:=3
def dH (aA aB:Int)(xs:List Int)(w:World)(e:Ending)(w':World):Prop:=
 ∃p cap,e= .returned (aH aA aB p xs.length cap)∧w'.ownsRow w.heap.size TI 1 (.slice p xs.length cap) xs.length (ivs xs)∧Ext w w'
def cO (aA aB:Int):Int×Int×List Int:=if 2≤aA∧aA≤4∧2≤aB∧aB≤3 then(aA,aB,List.replicate (aA*aB).toNat 0)else(0,0,[])
theorem aKi (n:Nat):(madeCells (I 0).cells (n*1)).toList=ivs (List.replicate n 0):=by apply List.ext_getElem<;>simp[madeCells,Value.cells,Nat.mod_one]
theorem aGd (aA aB:Int)(w:World)(h:aA<2∨2≤aA∧4<aA∨2≤aA∧aA≤4∧aB<2∨2≤aA∧aA≤4∧2≤aB∧3<aB):
  U 86 #[aA,aB] w (dH 0 0 [] w):=by
 rcases h with h|⟨h0,h⟩|⟨h0,h1,h⟩|⟨h0,h1,h2,h⟩
 all_goals
  (try (have a:decide (aB≤3)=false:=by simp;omega));(try (have a:decide (aA≤4)=false:=by simp;omega));go_enter func86,ntmps86;go_wp2_with go_in;exact bodyPost_ret (v:=aH 0 0 none 0 0) (by simp[results,results86,go_sem]) rfl ⟨none,0,rfl,aRw _ _ _ _,by exact .alloc (.refl _) _⟩
theorem Blk.three {w:World}{g:Nat}{t:TypeId}{a b c:Value}(h:Blk w g t #[a,b,c]):w.cell? ⟨g,0,none⟩=some a∧w.cell? ⟨g,1,none⟩=some b∧w.cell? ⟨g,2,none⟩=some c∧w.frozen? ⟨g,0,none⟩=false∧w.frozen? ⟨g,1,none⟩=false∧w.frozen? ⟨g,2,none⟩=false:=
 ⟨h.cell 0,h.cell 1,h.cell 2,h.frozen 0,h.frozen 1,h.frozen 2⟩
theorem sR {aA aB:Int}{p:OA}{n a:Nat}{xs:List Int}{w w':World}(hn:xs.length=n)(ho:w'.ownsRow w TI 1 (.slice p n a) n (ivs xs))(hx:Ext w w'):dH aA aB xs w (.returned (aH aA aB p n a)) w':=by subst hn;exact⟨p,a,rfl,ho,hx⟩
theorem aH0 {w:World}{B n:Nat}{xs:List Value}{c0 c1 c2:Value}(h:w.ownsRow B TI 1 (.slice (some ⟨B+1,0,none⟩) n n) n xs):
  (((w.setCell ⟨B,0,none⟩ c0).setCell ⟨B,1,none⟩ c1).setCell ⟨B,2,none⟩ c2).ownsRow B TI 1 (.slice (some ⟨B+1,0,none⟩) n n) n xs:=by
 have hx:ExtR B w (((w.setCell ⟨B,0,none⟩ c0).setCell ⟨B,1,none⟩ c1).setCell ⟨B,2,none⟩ c2):=(((ExtR.refl B w).setCell (p:=⟨B,0,none⟩) (.inl rfl) _).setCell (p:=⟨B,1,none⟩) (.inl rfl) _).setCell (p:=⟨B,2,none⟩) (.inl rfl) _;exact h.kept hx (.inr (by simp[Value.ownBlock]))
theorem aJw (aA aB:Int)(n:Nat)(w:World)(h0:2≤aA)(h1:aA≤4)(h2:2≤aB)(h3:aB≤3)(h4:0≤aA*aB)(h5:aA*aB≤12)(h6:aA*aB=(n:Int))(h7:n≤12):
  U 86 #[aA,aB] w (dH aA aB (List.replicate n 0) w):=by
 obtain⟨i0,hi,e,f,g⟩:=info_parts (show(prog.info? 3).map (fun i=>(i.zero,i.size,i.bytes))=some (some (I 0),1,8) by kernel_rfl);have q1:decide (aA≤4)=true:=by simp[h1]
 have q2:decide (aB≤3)=true:=by simp[h3]
 go_enter func86,ntmps86;go_wp2_with (first|go_in|(at_make;refine wpList_make_full _ rfl _ _ 23 rfl w 3 i0 (I 0) 1 underlying23 hi e f .i64 .i64 _ _ n rfl rfl (by first|rfl|exact h6) (by first|rfl|exact h6) (by rw[g];omega) (by unfold maxLen;omega) (by simp) ?_;intro w0 a b;have c:Ext _ w0:=(Ext.refl _).grown b (fun q hq=>by cases hq);obtain⟨p0,p1,p2,p3,p4,p5⟩:=((Blk.new w 25 #[(),(),((),())]).ext c).three;have hz:(w:Nat)<w0:=aRf (by simp) c.sz;rw[aKi]at a;have HO:=xQ a;have d:Hid (Ext w w0):=((Ext.refl w).alloc _).trans c;clear a b c));have hx:Ext w _:=(((d.out.setCell (p:=⟨w,0,none⟩) (aRg _) (I aA)).setCell (p:=⟨w,1,none⟩) (aRg _) (I aB)).setCell (p:=⟨w,2,none⟩) (aRg _) (.slice (some ⟨w.heap.size+1,0,none⟩) n n))
 exact bodyPost_ret (v:=aH aA aB (some ⟨w.heap.size+1,0,none⟩) n n) (by simp[results,results86,go_sem, *]) rfl (sR (by simp) (aH0 (by simpa using HO.out)) hx)
def aZ (xs:List Int)(w:World)(e:Ending)(w':World):Prop:=
 ∃p cap,e= .returned (.slice p xs.length cap)∧w'.ownsRow w.heap.size TI 1 (.slice p xs.length cap) xs.length (ivs xs)∧Ext w w'
theorem dI {p:OA}{n a:Nat}{xs:List Int}{w w':World}(hn:xs.length=n)(ho:w'.ownsRow w TI 1 (.slice p n a) n (ivs xs))(hx:Ext w w'):aZ xs w (.returned (.slice p n a)) w':=by subst hn;exact⟨p,a,rfl,ho,hx⟩
theorem aIp: ∀(xs:List Int) (k:Nat) (x:Int),(∀y∈xs.take k,y<x)→(∀y,xs[k]? =some y→ ¬y<x)→mB x xs=xs.take k++x::xs.drop k:=by
 intro xs;induction xs with
 |nil=>intro k x _ _;simp[mB]
 |cons y ys ih=>
  intro k x h1 h2;cases k with
  |zero=>have:=h2 y rfl;simp[mB,this]
  |succ k=>have h3:y<x:=h1 y (by simp);rw[mB,if_pos h3,ih k x (fun z hz=>h1 z (by simp[hz])) (fun z hz=>h2 z (by simpa using hz))];simp
theorem aNd (x:Int)(xs:List Int):(mB x xs).length=xs.length+1:=(nO x xs).length_eq
theorem aP0 {w:World}{b c n a k:Nat}{xs:List Int}(h:Sl w (some ⟨b,c,none⟩) n a 1 (ivs xs))(hk:k≤n):Sl w (some ⟨b,c+k,none⟩) (n-k) (a-k) 1 (ivs (xs.drop k)):=by have hl:=h.ilen;have f:=h.le;have g:=h.mx;refine⟨by simp;omega,by omega,by omega,fun h0=> ?_⟩;obtain⟨b',d,e,hb,hc⟩:=h.rd (by omega);injection e with e;injection e with e1 e2;subst e1 e2;refine⟨_,_,rfl,hb,fun j hj=> ?_⟩;rw[Nat.add_assoc,hc (k+j) (by omega)];simp
theorem aOz (w:World)(p:OA){c:Nat}(hc:c≤maxLen):Sl w p 0 c 1 (ivs []):=⟨by simp,aRo _,hc,fun h=>absurd h (by omega)⟩
theorem aC7 (p:OA)(n m:Nat)(xs:List Int)(x:Int)(w:World)(hn:n≤1000000)(hS:Sl w p n m 1 (ivs xs)):
  U 79 #[.slice p n m,x] w (aZ (mB x xs) w):=by
 have hl:=xQ hS.ilen;have ae:=hS.le;have ad:=hS.mx;unfold maxLen at ad;have HS:=xQ hS;clear hS;go_enter func79,ntmps79;go_wp2;go_loopw [5,6] (fun v i wr=> ∃(k:Nat) (q:OA) (c:Nat),k≤n∧i=I k∧v= .slice q k c∧wr.ownsRow w TI 1 (.slice q k c) k (ivs (xs.take k))∧(∀y∈xs.take k,y<x)∧Ext w wr) (fun _ i _=>n-(intOf i).toNat)
 case atStart=>exact⟨0,_,0,aRo _,rfl,rfl,aSf _ #[] 0 (aRg _) (by simp[maxLen]) rfl,by simp,by exact .alloc (.refl _) _⟩
 case round=>
  obtain⟨k,q,c,hk,rfl,rfl,r,o,hE⟩:=hrel;have HO:=xQ r;have HL:=xQ o;have ah:=hE.sz;clear r o;by_cases hlt:k<n
  ·obtain⟨b,ai,y,rfl,hx,hb,ab⟩:=(HS.out.ext hE).int_at hlt;have HX:=xQ hx;clear hx;by_cases hy:y<x
   ·have d:Hid (∀z∈xs.take (k+1),z<x):=by
     show∀z∈xs.take (k+1),z<x;rw[aX HX.out];intro z hz;rcases aS0.1 hz with h|h
     ·exact HL z h
     simp at h;omega
    go_wp2_with (at_builtin;refine cP fU rfl _ _ rfl w _ _ _ rfl (HO.out.alloc _) _ _ y _ rfl (by simp) (by omega) (by simp;omega) ?_;intro p' aa w1 a g;have j:=xQ a;have f:Ext w w1:=Ext.own (hE.alloc _) (HO.out.alloc _) g (aRg _);clear a g);go_roundw
    case rel=>exact⟨k+1,p',aa,by omega,by go_num,rfl,by rw[aX HX.out];exact j.out,d.out,f⟩
    case measure=>simp[intOf];omega
   have d:Hid (mB x xs=xs.take k++x::xs.drop k):=aIp xs k x HL (fun z hz=>by rw[HX.out]at hz;injection hz with hz;subst hz;exact hy);have i1:(0:Int)≤(k:Int):=by omega
   have i2:(k:Int)≤(n:Int):=by omega
   have ag: ¬m=k:=by omega
   go_wp2
   go_region_law ((first
    |(refine jU _ fU (by rfl) _ _ (by rfl) w _ k (ivs (xs.take k)) (by rfl) (by first|exact HO.out|exact HO.out.alloc _|exact(HO.out.alloc _).drew|exact HO.out.drew.alloc _|exact HO.out.drew) _ 1 1 [iv x] (by rfl) (by first|exact Sl.new wr #[iv x] _ 1 rfl (by decide)|exact(Sl.new wr #[iv x] _ 1 rfl (by decide)).ext (Ext.drew (Ext.refl _))|exact Sl.new wr.drew #[iv x] _ 1 rfl (by decide)) (qW [x]) (by omega) (by simp;omega) ?_
      intro p1 c1 w1 a g;have f:Ext w w1:=Ext.own (by exact .drew (.alloc hE _)) (by first|exact HO.out|exact HO.out.alloc _|exact(HO.out.alloc _).drew|exact HO.out.drew.alloc _|exact HO.out.drew) g (aRg _);have j:=xQ a;have u:=xQ (HS.out.ext f);have af:=f.sz
      clear a g)
    |(refine jU _ fU (by rfl) _ _ (by rfl) w _ (k+1) (ivs (xs.take k)++ [iv x]) (by rfl) j _ (n-k) (m-k) (ivs (xs.drop k)) (by rfl) (aP0 u (by omega)) (qW _) (by omega) (by omega) ?_
      intro p2 c2 w2 e l;have t:Ext w w2:=Ext.own f j l (aRg _);have s:=xQ e
      clear e l)))
   all_goals go_wp2
   all_goals go_ret
   all_goals exact dI (by rw[d.out];simp;rw[hl.out];omega) (by rw[d.out];simpa using s.out) t
  obtain rfl:k=n:=by omega
  have d:Hid (mB x xs=xs++ [x]):=by have:=aIp xs k x HL (fun z hz=>by rw[aSv (by rw[hl.out];exact aRg _)]at hz;cases hz);show _=_;rw[this,aRn (by rw[hl.out];exact aRg _),aT0 (by rw[hl.out];exact aRg _)]
  have i1:(0:Int)≤(k:Int):=by omega
  go_wp2
  go_region_law ((first
   |(refine jU _ fU (by rfl) _ _ (by rfl) w _ k (ivs (xs.take k)) (by rfl) (by first|exact HO.out|exact HO.out.alloc _|exact(HO.out.alloc _).drew|exact HO.out.drew.alloc _|exact HO.out.drew) _ 1 1 [iv x] (by rfl) (by first|exact Sl.new wr #[iv x] _ 1 rfl (by decide)|exact(Sl.new wr #[iv x] _ 1 rfl (by decide)).ext (Ext.drew (Ext.refl _))|exact Sl.new wr.drew #[iv x] _ 1 rfl (by decide)) (qW [x]) (by omega) (by simp;omega) ?_
     intro p1 c1 w1 a g;have f:Ext w w1:=Ext.own (by exact .drew (.alloc hE _)) (by first|exact HO.out|exact HO.out.alloc _|exact(HO.out.alloc _).drew|exact HO.out.drew.alloc _|exact HO.out.drew) g (aRg _);have j:=xQ a;have u:=xQ (HS.out.ext f);have af:=f.sz
     clear a g)
   |(refine jU _ fU (by rfl) _ _ (by rfl) w _ (k+1) (ivs (xs.take k)++ [iv x]) (by rfl) j _ 0 _ (ivs []) (by rfl) (aOz _ _ (by unfold maxLen;omega)) (qW _) (by omega) (by omega) ?_
     intro p2 c2 w2 e l;have t:Ext w w2:=Ext.own f j l (aRg _);have s:=xQ e
     clear e l)))
  all_goals go_wp2
  all_goals go_ret
  all_goals exact dI (by rw[d.out];simp;rw[hl.out]) (by rw[d.out];have:=s.out;rw[aRn (by rw[hl.out];exact aRg _)]at this;simpa using this) t
theorem aE7 (xs:List Int):(xs.mergeSort fun x y=>decide (x≤y))=gC xs:=by refine oC (List.mergeSort_perm _ _) ?_;have:=List.pairwise_mergeSort (le:=fun x y:Int=>decide (x≤y)) (fun a b c h1 h2=>by simp at*;omega) (fun a b=>by simp;omega) xs;simpa using this
theorem aMj (B:Nat)(p:OA)(n a:Nat)(xs:List Int)(w:World)(h:w.ownsRow B TI 1 (.slice p n a) n (ivs xs))(hn:n≤1000000):
  U 85 #[.slice p n a] w fun e w'=>e= .returned (.tuple #[])∧w'.ownsRow B TI 1 (.slice p n a) n (ivs (gC xs))∧w.grownBy w' (Value.slice p n a).ownBlock:=by
 have hl:xs.length=n:=by have:=h.1;simpa using this
 subst hl;by_cases h0:xs.length=0
 ·obtain rfl:xs= []:=aSi h0;refine(Tryz.slices_Sort_int_none p a w).mono ?_;rintro e w' ⟨rfl,rfl⟩;exact⟨rfl,h,aT1 _ _⟩
 rcases h.2 with⟨h1,h2⟩|⟨g,cap',cur,h1,hb,hg,hnc,hm,hs,ht⟩
 ·exact absurd h2 h0
 injection h1 with e1 e2 e3;subst e1 e3;refine(Tryz.slices_Sort_int g 0 a xs w (Go.holds_of_blockI hg (by simpa using ht)) (aSp.1 hg).1 (by omega)).mono ?_;rintro e w' ⟨rfl,k,os,rfl⟩;rw[aE7];exact⟨rfl,Go.ownsRow_sortedI (aAf xs) hb hg hnc hm hs,Go.grownBy_sortedI _⟩
theorem bI {w w':World}{B n sz:Nat}{e:TypeId}{v:Value}{xs:List Value}(ho:w.ownsRow B e sz v n xs)(h:Ext w w'):w'.ownsRow B e sz v n xs:=
 ho.kept (row:=none) ⟨h.os,h.tape,h.output,h.size,fun k hk _=>h.block k hk⟩ (by cases v.ownBlock<;>simp)
theorem bJ {w:World}{B B' n sz:Nat}{e:TypeId}{v:Value}{xs:List Value}(h:w.ownsRow B e sz v n xs)(hb:B'≤B):w.ownsRow B' e sz v n xs:=by
 refine⟨h.1,?_⟩;rcases h.2 with h2|⟨g,a,b,e1,c,r⟩
 ·exact .inl h2
 exact .inr ⟨g,a,b,e1,aRp hb c,r⟩
theorem aGf (aA aB:Int)(p:OA)(n a:Nat)(w:World)(HV:xB 29 #[aH aA aB p n a] w false):
  U 28 #[aH aA aB p n a] w (aZ [] w):=by
 go_enter func28,ntmps28;go_wp2_with fail;refine Z (HV _ (by exact .alloc (.alloc (.refl _) _) _)) fun w1 h1=>?_
 go_wp2;go_ret;have ho:((w.alloc (.cells #[aA,aB,.slice p n a] 25)).alloc (.cells #[] TI)).ownsRow w TI 1 (.slice (some ⟨(w.alloc (.cells #[aA,aB,.slice p n a] 25)).heap.size,0,none⟩) 0 0) 0 []:=aSf _ #[] 0 (by simp) (by simp[maxLen]) rfl;exact dI rfl (by simpa using bI ho h1) (by exact .trans (.alloc (.alloc (.refl _) _) _) h1)
theorem aJy (aA aB:Int)(p:OA)(n d:Nat)(xs:List Int)(w:World)(hn:n≤12)(HS:Hid (Sl w p n d 1 (ivs xs)))(HV:xB 29 #[aH aA aB p n d] w true):
  U 28 #[aH aA aB p n d] w (aZ (dR xs) w):=by
 have hl:=xQ HS.out.ilen;go_enter func28,ntmps28;go_wp2_with fail;refine Z (HV _ (by exact .alloc (.alloc (.refl _) _) _)) fun w1 h1=>?_
 have ho:((w.alloc (.cells #[aA,aB,.slice p n d] 25)).alloc (.cells #[] TI)).ownsRow w TI 1 (.slice (some ⟨(w.alloc (.cells #[aA,aB,.slice p n d] 25)).heap.size,0,none⟩) 0 0) 0 []:=aSf _ #[] 0 (by simp) (by simp[maxLen]) rfl;have l:=xQ (bI ho h1);have t:(w:Nat)<w1:=aRf (by first|(simp;omega)|simp) h1.sz;have eb:w1.cell? ⟨w,2,none⟩=some (.slice p n d):=by rw[h1.cells.1 _ _ (by simp;omega)];simp
 have s:Ext w w1:=by exact .trans (.alloc (.alloc (.refl _) _) _) h1
 clear ho;go_wp2;go_loopw [3,4] (fun v i wr=> ∃(k:Nat) (q:OA) (m c:Nat),k≤n∧i=I k∧v= .slice q m c∧m≤k∧wr.ownsRow w TI 1 (.slice q m c) m (ivs (gC (dK (xs.take k))))∧Ext w1 wr) (fun _ i _=>n-(intOf i).toNat)
 case atStart=>exact⟨0,_,0,0,aRo _,rfl,rfl,aRg _,by simpa[dK,gC]using l.out,Ext.refl _⟩
 case round=>
  obtain⟨k,q,m,c,hk,rfl,rfl,u,h,hE⟩:=hrel;have HO:=xQ h;have j:=s.trans hE;have ec:wr.cell? ⟨w,2,none⟩=some (.slice p n d):=(hE.cells.1 _ _ t).trans eb;clear h;by_cases hlt:k<n
  ·obtain⟨b,y,x,rfl,hx,hb,r⟩:=(HS.out.ext j).int_at hlt;have HX:=xQ hx;clear hx;by_cases hx0:0<x
   ·have a:Hid (gC (dK (xs.take (k+1)))=mB x (gC (dK (xs.take k)))):=by
     show _=_;rw[aX HX.out,mN,if_pos hx0,xJ]
    have HC:Hid (∀w',Ext wr w'→U 79 #[.slice q m c,x] w' (aZ (mB x (gC (dK (xs.take k)))) w')):=fun w' hx=>aC7 q m c _ x w' (by omega) ((Sl.own HO.out).ext hx)
    have g:(mB x (gC (dK (xs.take k)))).length=m+1:=by rw[aNd];have:=HO.out.1;simp at this;omega
    have f:=xQ g;clear g;go_wp2_with fail;refine(HC _ (by exact .refl _)).mono ?_;rintro e w2 ⟨q2,c2,rfl,h2,h3⟩;have o:Hid (w2.ownsRow w TI 1 (.slice q2 (m+1) c2) (m+1) (ivs (gC (dK (xs.take (k+1)))))):=by rw[a.out,←f.out];exact bJ h2 j.sz
    rw[f.out];clear h2;go_wp2;go_roundw
    case rel=>exact⟨k+1,q2,m+1,c2,by omega,by go_num,rfl,by omega,o.out,by exact .trans hE h3⟩
    case measure=>simp[intOf];omega
   have a:Hid (gC (dK (xs.take (k+1)))=gC (dK (xs.take k))):=by show _=_;rw[aX HX.out,mN,if_neg hx0,aS6]
   go_wp2;go_roundw
   case rel=>exact⟨k+1,q,m,c,by omega,by go_num,rfl,by omega,by rw[a.out];exact HO.out,hE⟩
   case measure=>simp[intOf];omega
  have a:Hid (gC (dK (xs.take k))=dR xs):=by show _=_;rw[aRn (by rw[hl.out];omega)];rfl
  go_wp2;go_ret;exact dI (by rw[←a.out];have:=HO.out.1;simpa using this) (by rw[←a.out];exact HO.out) j
theorem aHq (aA aB:Int)(p:OA)(n a:Nat)(w:World)(HV:xB 37 #[aH aA aB p n a] w false):
  U 39 #[aH aA aB p n a] w (aZ [] w):=by
 go_enter func39,ntmps39;go_wp2_with fail;refine Z (HV _ (by exact .alloc (.refl _) _)) fun w1 h1=>?_
 go_wp2;go_ret;exact dI rfl (aRw _ _ _ _) (by exact .trans (.alloc (.refl _) _) h1)
theorem aL1 (aA aB:Int)(p:OA)(n f:Nat)(xs:List Int)(w:World)(hn:n≤12)(HS:Hid (Sl w p n f 1 (ivs xs)))(HV:xB 37 #[aH aA aB p n f] w true):
  U 39 #[aH aA aB p n f] w (aZ (dR xs) w):=by
 have hl:=xQ HS.out.ilen;go_enter func39,ntmps39;go_wp2_with fail;refine Z (HV _ (by exact .alloc (.refl _) _)) fun w1 h1=>?_
 have eb:w1.cell? ⟨w,2,none⟩=some (.slice p n f):=by rw[h1.cells.1 _ _ (by simp)];simp
 have h:Ext w w1:=by exact .trans (.alloc (.refl _) _) h1
 go_wp2;go_loopw [3,12] (fun v i wr=> ∃(k:Nat) (q:OA) (m c:Nat),k≤n∧i=I k∧v= .slice q m c∧m≤k∧wr.ownsRow w1 TI 1 (.slice q m c) m (ivs (dK (xs.take k)))∧Ext w1 wr) (fun _ i _=>n-(intOf i).toNat)
 case atStart=>exact⟨0,none,0,0,aRo _,rfl,rfl,aRg _,aRw _ _ _ _,Ext.refl _⟩
 case round=>
  obtain⟨k,q,m,c,hk,rfl,rfl,aa,g,hE⟩:=hrel;have HO:=xQ g;have o:=h.trans hE;have ab:=hE.sz;have z:=h.sz;clear g;by_cases hlt:k<n
  ·obtain⟨b,ad,x,rfl,hx,hb,y⟩:=(HS.out.ext o).int_at hlt;have HX:=xQ hx;clear hx;by_cases hx0:0<x
   ·have a:Hid (dK (xs.take (k+1))=dK (xs.take k)++ [x]):=by
     show _=_;rw[aX HX.out,mN,if_pos hx0]
    go_wp2_with (at_builtin;refine cP fU rfl _ _ rfl w1 _ _ _ rfl (HO.out.alloc _) _ _ x _ rfl (by simp) (by omega) (by simp;omega) ?_;intro p' l w2 d r;have s:=xQ d;have t:Ext w1 w2:=Ext.own (hE.alloc _) (HO.out.alloc _) r (aRg _);clear d r);go_roundw
    case rel=>exact⟨k+1,p',m+1,l,by omega,by go_num,rfl,by omega,by rw[a.out];exact s.out,t⟩
    case measure=>simp[intOf];omega
   have a:Hid (dK (xs.take (k+1))=dK (xs.take k)):=by show _=_;rw[aX HX.out,mN,if_neg hx0,aS6]
   go_wp2;go_roundw
   case rel=>exact⟨k+1,q,m,c,by omega,by go_num,rfl,by omega,by rw[a.out];exact HO.out,hE⟩
   case measure=>simp[intOf];omega
  have a:Hid (gC (dK (xs.take k))=dR xs):=by show _=_;rw[aRn (by rw[hl.out];omega)];rfl
  go_wp2_with fail;refine(aMj w1 q m c _ _ HO (by omega)).mono ?_;rintro e w2 ⟨rfl,h2,h3⟩;have u:Ext w w2:=o.own HO h3 (by omega);have j:=xQ h2;clear h2 h3;go_wp2;go_ret;exact dI (by rw[←a.out];have:=j.out.1;simpa using this) (by rw[←a.out];exact bJ j h.sz) u
theorem aQ7 (aA aB:Int)(p:OA)(n a:Nat)(xs:List Int)(w:World)(hS:Sl w p n a 1 (ivs xs)):U 28 #[aH aA aB p n a] w (aZ (if aN aA aB xs then dR xs else []) w):=by
 have hl:=hS.ilen;cases h:aN aA aB xs with
 |true=>
  have h2:gX aA aB n=true:=by simp only[aN,aRr]at h;rw[←hl];exact h.1
  rw[if_pos rfl];exact aJy aA aB p n a xs w (cE h2).2.2.2.2.2.1 hS (fun w' hx=>by rw[←h];exact gH aA aB p n a xs w' (hS.ext hx))
 |false=>rw[if_neg (by simp)];exact aGf aA aB p n a w (fun w' hx=>by rw[←h];exact gH aA aB p n a xs w' (hS.ext hx))
theorem aNq (aA aB:Int)(p:OA)(n a:Nat)(xs:List Int)(w:World)(hS:Sl w p n a 1 (ivs xs)):U 39 #[aH aA aB p n a] w (aZ (if aN aA aB xs then dR xs else []) w):=by
 have hl:=hS.ilen;cases h:aN aA aB xs with
 |true=>
  have h2:gX aA aB n=true:=by simp only[aN,aRr]at h;rw[←hl];exact h.1
  rw[if_pos rfl];exact aL1 aA aB p n a xs w (cE h2).2.2.2.2.2.1 hS (fun w' hx=>by rw[←h];exact gM aA aB p n a xs w' (hS.ext hx))
 |false=>rw[if_neg (by simp)];exact aHq aA aB p n a w (fun w' hx=>by rw[←h];exact gM aA aB p n a xs w' (hS.ext hx))
end
end Go.Proofs.YtomgkjinhnkpnaaGreatDoor
