/-
  Texts of this proof, packed (@packed).
-/
import Derived.Deep.AppendLies
import Derived.Deep.RegionLaw
import Derived.Maps.AppendAt
import Derived.RegionTactic
import Derived.Test.YtgnkoffndhmhpaaGreatDoorR1
import Derived.Test.YtgnkoffndhmhpaaGreatDoorR2
namespace Go.Proofs.YtgnkoffndhmhpaaGreatDoor
open Go.RowKit
set_option linter.unusedVariables false
set_option maxHeartbeats 8000000
set_option maxRecDepth 100000
theorem vT (f s p c i pd a now:Int)(w:World)(h:bH f s p c=true)(h2:cP i pd a=true)(h3:a≤now)(h4:now≤9999):Calls Tryz.prog 84 #[aR f s p c,bL i pd a,now] w fun e w'=>e= .returned (.int .i64 (bT f s p c i pd a now))∧Ext w w':=by
 obtain⟨b1,b2,b3,b4,b5,b6⟩:=eS h2
 have HT:Hid (∀w,Calls Tryz.prog 81 #[aR f s p c] w fun e w'=>e= .returned (.bool true)∧Ext w w'):=fun w=>by rw[←h];exact vR f s p c w
 have HS:Hid (∀w,Calls Tryz.prog 82 #[bL i pd a] w fun e w'=>e= .returned (.bool true)∧Ext w w'):=fun w=>by rw[←h2];exact aGb i pd a w
 obtain⟨q,hq⟩: ∃q,q=kQ f s p c (now-i):=⟨_,rfl⟩
 have hqb:0≤q∧q≤693:=by rw[hq];exact lY h (by omega) (by omega)
 have HF:Hid (∀w,Calls Tryz.prog 45 #[aR f s p c,(now-i:Int)] w fun e w'=>e= .returned (.int .i64 q)∧Ext w w'):=fun w=>by rw[hq];exact aJ0 f s p c _ w h (by omega) (by omega)
 have hres:bT f s p c i pd a now=max (q-pd) 0:=by rw[hq];simp[bT,h,h2,h3,h4]
 rw[hres]
 clear hq hres h h2
 go_enter Tryz.func84,Tryz.ntmps84
 go_wp2_with fail
 refine(HT.out _).mono ?_
 rintro e w1 ⟨rfl,h1'⟩
 have hz1:w.heap.size<w1.heap.size:=Nat.lt_of_lt_of_le (by simp;omega) h1'.sz
 have hz2:w.heap.size+1<w1.heap.size:=Nat.lt_of_lt_of_le (by simp) h1'.sz
 have e0:w1.cell? ⟨w.heap.size,0,none⟩=some (.int .i64 f):=by rw[h1'.cells.1 _ _ (by simp;omega)];simp
 have e1:w1.cell? ⟨w.heap.size,1,none⟩=some (.int .i64 s):=by rw[h1'.cells.1 _ _ (by simp;omega)];simp
 have e2:w1.cell? ⟨w.heap.size,2,none⟩=some (.int .i64 p):=by rw[h1'.cells.1 _ _ (by simp;omega)];simp
 have e3:w1.cell? ⟨w.heap.size,3,none⟩=some (.int .i64 c):=by rw[h1'.cells.1 _ _ (by simp;omega)];simp
 have g0:w1.cell? ⟨w.heap.size+1,0,none⟩=some (.int .i64 i):=by rw[h1'.cells.1 _ _ (by simp)];simp
 have g1:w1.cell? ⟨w.heap.size+1,1,none⟩=some (.int .i64 pd):=by rw[h1'.cells.1 _ _ (by simp)];simp
 have g2:w1.cell? ⟨w.heap.size+1,2,none⟩=some (.int .i64 a):=by rw[h1'.cells.1 _ _ (by simp)];simp
 go_wp2_with (first|(go_at_call 82;refine(HS.out _).mono ?_;rintro e w2 ⟨rfl,h2'⟩;have hc2:=h2'.cells.1;have hz3:w.heap.size<w2.heap.size:=Nat.lt_of_lt_of_le hz1 h2'.sz;have hz4:w.heap.size+1<w2.heap.size:=Nat.lt_of_lt_of_le hz2 h2'.sz)|go_in)
 have k1:IntKind.i64.wrap (now-i)=now-i:=IntWalk.i64_in _ (by omega)
 have k2:IntKind.i64.wrap (q-pd)=q-pd:=IntWalk.i64_in _ (by omega)
 go_region_held3 (fun w'=>w'.cell? ⟨w.heap.size,0,none⟩=some (.int .i64 f)∧w'.cell? ⟨w.heap.size,1,none⟩=some (.int .i64 s)∧w'.cell? ⟨w.heap.size,2,none⟩=some (.int .i64 p)∧w'.cell? ⟨w.heap.size,3,none⟩=some (.int .i64 c)∧w'.cell? ⟨w.heap.size+1,0,none⟩=some (.int .i64 i)∧w'.cell? ⟨w.heap.size+1,1,none⟩=some (.int .i64 pd)) (go_keep)
  ((go_at_call 45;refine(HF.out _).mono ?_;rintro e w3 ⟨rfl,h3'⟩;(try replace h3':=h3'.of_drew);have hc3:=h3'.cells.1;have hz5:w.heap.size<w3.heap.size:=Nat.lt_of_lt_of_le (by assumption) h3'.sz;have hz6:w.heap.size+1<w3.heap.size:=Nat.lt_of_lt_of_le (by assumption) h3'.sz))
 all_goals clear k1 k2
 all_goals go_wp2
 all_goals go_ret
 all_goals exact⟨dL (by omega),by exact .trans (.trans (.trans (.alloc (.alloc (.refl _) _) _) h1') h2') h3'⟩
theorem uY (f s p c i pd a now:Int)(w:World)(h:bH f s p c=true)(h2:cP i pd a=true)(h3:a≤now)(h4:now≤9999):Calls Tryz.prog 133 #[aR f s p c,bL i pd a,now] w fun e w'=>e= .returned (.int .i64 (bT f s p c i pd a now))∧Ext w w':=by
 obtain⟨b1,b2,b3,b4,b5,b6⟩:=eS h2
 have HT:Hid (∀w,Calls Tryz.prog 91 #[aR f s p c] w fun e w'=>e= .returned (.bool true)∧Ext w w'):=fun w=>by rw[←h];exact uW f s p c w
 have HS:Hid (∀w,Calls Tryz.prog 92 #[bL i pd a] w fun e w'=>e= .returned (.bool true)∧Ext w w'):=fun w=>by rw[←h2];exact aF5 i pd a w
 obtain⟨q,hq⟩: ∃q,q=kQ f s p c (now-i):=⟨_,rfl⟩
 have hqb:0≤q∧q≤693:=by rw[hq];exact lY h (by omega) (by omega)
 have HF:Hid (∀w,Calls Tryz.prog 162 #[aR f s p c,(now-i:Int)] w fun e w'=>e= .returned (.int .i64 q)∧Ext w w'):=fun w=>by rw[hq];exact aIm f s p c _ w h (by omega) (by omega)
 have hres:bT f s p c i pd a now=max (q-pd) 0:=by rw[hq];simp[bT,h,h2,h3,h4]
 rw[hres]
 clear hq hres h h2
 go_enter Tryz.func133,Tryz.ntmps133
 go_wp2_with fail
 refine(HT.out _).mono ?_
 rintro e w1 ⟨rfl,h1'⟩
 have hz1:w.heap.size<w1.heap.size:=Nat.lt_of_lt_of_le (by simp;omega) h1'.sz
 have hz2:w.heap.size+1<w1.heap.size:=Nat.lt_of_lt_of_le (by simp) h1'.sz
 have e0:w1.cell? ⟨w.heap.size,0,none⟩=some (.int .i64 f):=by rw[h1'.cells.1 _ _ (by simp;omega)];simp
 have e1:w1.cell? ⟨w.heap.size,1,none⟩=some (.int .i64 s):=by rw[h1'.cells.1 _ _ (by simp;omega)];simp
 have e2:w1.cell? ⟨w.heap.size,2,none⟩=some (.int .i64 p):=by rw[h1'.cells.1 _ _ (by simp;omega)];simp
 have e3:w1.cell? ⟨w.heap.size,3,none⟩=some (.int .i64 c):=by rw[h1'.cells.1 _ _ (by simp;omega)];simp
 have g0:w1.cell? ⟨w.heap.size+1,0,none⟩=some (.int .i64 i):=by rw[h1'.cells.1 _ _ (by simp)];simp
 have g1:w1.cell? ⟨w.heap.size+1,1,none⟩=some (.int .i64 pd):=by rw[h1'.cells.1 _ _ (by simp)];simp
 have g2:w1.cell? ⟨w.heap.size+1,2,none⟩=some (.int .i64 a):=by rw[h1'.cells.1 _ _ (by simp)];simp
 go_wp2_with (first|(go_at_call 92;refine(HS.out _).mono ?_;rintro e w2 ⟨rfl,h2'⟩;have hc2:=h2'.cells.1;have hz3:w.heap.size<w2.heap.size:=Nat.lt_of_lt_of_le hz1 h2'.sz;have hz4:w.heap.size+1<w2.heap.size:=Nat.lt_of_lt_of_le hz2 h2'.sz)|go_in)
 have k1:IntKind.i64.wrap (now-i)=now-i:=IntWalk.i64_in _ (by omega)
 have k2:IntKind.i64.wrap (q-pd)=q-pd:=IntWalk.i64_in _ (by omega)
 go_region_held3 (fun w'=>w'.cell? ⟨w.heap.size,0,none⟩=some (.int .i64 f)∧w'.cell? ⟨w.heap.size,1,none⟩=some (.int .i64 s)∧w'.cell? ⟨w.heap.size,2,none⟩=some (.int .i64 p)∧w'.cell? ⟨w.heap.size,3,none⟩=some (.int .i64 c)∧w'.cell? ⟨w.heap.size+1,0,none⟩=some (.int .i64 i)∧w'.cell? ⟨w.heap.size+1,1,none⟩=some (.int .i64 pd)) (go_keep)
  ((go_at_call 162;refine(HF.out _).mono ?_;rintro e w3 ⟨rfl,h3'⟩;(try replace h3':=h3'.of_drew);have hc3:=h3'.cells.1;have hz5:w.heap.size<w3.heap.size:=Nat.lt_of_lt_of_le (by assumption) h3'.sz;have hz6:w.heap.size+1<w3.heap.size:=Nat.lt_of_lt_of_le (by assumption) h3'.sz))
 all_goals clear k1 k2
 all_goals go_wp2
 all_goals go_ret
 all_goals exact⟨dL (by omega),by exact .trans (.trans (.trans (.alloc (.alloc (.refl _) _) _) h1') h2') h3'⟩
theorem aGi (f s p c i pd a now d1 d2:Int)(w:World)(h0:0≤d1)(h2:0≤d2)(h3:a≤now)(h4:now≤9999)(h5:0≤a)(t1:(d1==0)=true)
  (HA:Hid (∀w,Calls Tryz.prog 84 #[aR f s p c,bL i pd a,now] w fun e w'=>e= .returned (.int .i64 d1)∧Ext w w'))
  (HB:Hid (∀w,Calls Tryz.prog 84 #[aR f s p c,bL i pd a,a] w fun e w'=>e= .returned (.int .i64 d2)∧Ext w w')):
  Calls Tryz.prog 150 #[aR f s p c,bL i pd a,now] w fun e w'=>e= .returned (.bool true)∧Ext w w':=by
 go_enter Tryz.func150,Tryz.ntmps150
 go_wp2_with fail
 refine(HA.out _).mono ?_
 rintro e w1 ⟨rfl,h1'⟩
 have hz1:w.heap.size<w1.heap.size:=Nat.lt_of_lt_of_le (by simp;omega) h1'.sz
 have hz2:w.heap.size+1<w1.heap.size:=Nat.lt_of_lt_of_le (by simp) h1'.sz
 have hc1:=h1'.cells.1
 go_wp2
 go_ret
 exact⟨aV (by first|rfl|(simp;omega)),by exact .trans (.alloc (.alloc (.refl _) _) _) h1'⟩
theorem aGh (f s p c i pd a now d1 d2:Int)(w:World)(h0:0≤d1)(h2:0≤d2)(h3:a≤now)(h4:now≤9999)(h5:0≤a)(t1:(d1==0)=false)(t2:15<now-a)(t3:(d2==0)=true)
  (HA:Hid (∀w,Calls Tryz.prog 84 #[aR f s p c,bL i pd a,now] w fun e w'=>e= .returned (.int .i64 d1)∧Ext w w'))
  (HB:Hid (∀w,Calls Tryz.prog 84 #[aR f s p c,bL i pd a,a] w fun e w'=>e= .returned (.int .i64 d2)∧Ext w w')):
  Calls Tryz.prog 150 #[aR f s p c,bL i pd a,now] w fun e w'=>e= .returned (.bool false)∧Ext w w':=by
 go_enter Tryz.func150,Tryz.ntmps150
 go_wp2_with fail
 refine(HA.out _).mono ?_
 rintro e w1 ⟨rfl,h1'⟩
 have hz1:w.heap.size<w1.heap.size:=Nat.lt_of_lt_of_le (by simp;omega) h1'.sz
 have hz2:w.heap.size+1<w1.heap.size:=Nat.lt_of_lt_of_le (by simp) h1'.sz
 have hc1:=h1'.cells.1
 go_wp2
 go_ret
 exact⟨aV (by first|rfl|(simp;omega)),by exact .trans (.alloc (.alloc (.refl _) _) _) h1'⟩
theorem aGg (f s p c i pd a now d1 d2:Int)(w:World)(h0:0≤d1)(h2:0≤d2)(h3:a≤now)(h4:now≤9999)(h5:0≤a)(t1:(d1==0)=false)(t2:now-a≤15)(t3:(d2==0)=true)
  (HA:Hid (∀w,Calls Tryz.prog 84 #[aR f s p c,bL i pd a,now] w fun e w'=>e= .returned (.int .i64 d1)∧Ext w w'))
  (HB:Hid (∀w,Calls Tryz.prog 84 #[aR f s p c,bL i pd a,a] w fun e w'=>e= .returned (.int .i64 d2)∧Ext w w')):
  Calls Tryz.prog 150 #[aR f s p c,bL i pd a,now] w fun e w'=>e= .returned (.bool true)∧Ext w w':=by
 go_enter Tryz.func150,Tryz.ntmps150
 go_wp2_with fail
 refine(HA.out _).mono ?_
 rintro e w1 ⟨rfl,h1'⟩
 have hz1:w.heap.size<w1.heap.size:=Nat.lt_of_lt_of_le (by simp;omega) h1'.sz
 have hz2:w.heap.size+1<w1.heap.size:=Nat.lt_of_lt_of_le (by simp) h1'.sz
 have hc1:=h1'.cells.1
 go_wp2_with fail
 refine(HB.out _).mono ?_
 rintro e w2 ⟨rfl,h2'⟩
 have hz3:=Nat.lt_of_lt_of_le hz1 h2'.sz
 have hz4:=Nat.lt_of_lt_of_le hz2 h2'.sz
 have hc2:=h2'.cells.1
 go_wp2
 go_ret
 exact⟨aV (by first|rfl|(simp;omega)),by exact .trans (.trans (.alloc (.alloc (.refl _) _) _) h1') h2'⟩
theorem aGf (f s p c i pd a now d1 d2:Int)(w:World)(h0:0≤d1)(h2:0≤d2)(h3:a≤now)(h4:now≤9999)(h5:0≤a)(t1:(d1==0)=false)(t2:15<now-a)(t3:(d2==0)=false)
  (HA:Hid (∀w,Calls Tryz.prog 84 #[aR f s p c,bL i pd a,now] w fun e w'=>e= .returned (.int .i64 d1)∧Ext w w'))
  (HB:Hid (∀w,Calls Tryz.prog 84 #[aR f s p c,bL i pd a,a] w fun e w'=>e= .returned (.int .i64 d2)∧Ext w w')):
  Calls Tryz.prog 150 #[aR f s p c,bL i pd a,now] w fun e w'=>e= .returned (.bool false)∧Ext w w':=by
 go_enter Tryz.func150,Tryz.ntmps150
 go_wp2_with fail
 refine(HA.out _).mono ?_
 rintro e w1 ⟨rfl,h1'⟩
 have hz1:w.heap.size<w1.heap.size:=Nat.lt_of_lt_of_le (by simp;omega) h1'.sz
 have hz2:w.heap.size+1<w1.heap.size:=Nat.lt_of_lt_of_le (by simp) h1'.sz
 have hc1:=h1'.cells.1
 go_wp2
 go_ret
 exact⟨aV (by first|rfl|(simp;omega)),by exact .trans (.alloc (.alloc (.refl _) _) _) h1'⟩
theorem aGe (f s p c i pd a now d1 d2:Int)(w:World)(h0:0≤d1)(h2:0≤d2)(h3:a≤now)(h4:now≤9999)(h5:0≤a)(t1:(d1==0)=false)(t2:now-a≤15)(t3:(d2==0)=false)
  (HA:Hid (∀w,Calls Tryz.prog 84 #[aR f s p c,bL i pd a,now] w fun e w'=>e= .returned (.int .i64 d1)∧Ext w w'))
  (HB:Hid (∀w,Calls Tryz.prog 84 #[aR f s p c,bL i pd a,a] w fun e w'=>e= .returned (.int .i64 d2)∧Ext w w')):
  Calls Tryz.prog 150 #[aR f s p c,bL i pd a,now] w fun e w'=>e= .returned (.bool false)∧Ext w w':=by
 go_enter Tryz.func150,Tryz.ntmps150
 go_wp2_with fail
 refine(HA.out _).mono ?_
 rintro e w1 ⟨rfl,h1'⟩
 have hz1:w.heap.size<w1.heap.size:=Nat.lt_of_lt_of_le (by simp;omega) h1'.sz
 have hz2:w.heap.size+1<w1.heap.size:=Nat.lt_of_lt_of_le (by simp) h1'.sz
 have hc1:=h1'.cells.1
 go_wp2_with fail
 refine(HB.out _).mono ?_
 rintro e w2 ⟨rfl,h2'⟩
 have hz3:=Nat.lt_of_lt_of_le hz1 h2'.sz
 have hz4:=Nat.lt_of_lt_of_le hz2 h2'.sz
 have hc2:=h2'.cells.1
 go_wp2
 go_ret
 exact⟨aV (by first|rfl|(simp;omega)),by exact .trans (.trans (.alloc (.alloc (.refl _) _) _) h1') h2'⟩
theorem aIw (f s p c i pd a now:Int)(w:World)(h:bH f s p c=true)(h2:cP i pd a=true)(h3:a≤now)(h4:now≤9999):Calls Tryz.prog 150 #[aR f s p c,bL i pd a,now] w fun e w'=>e= .returned (.bool (jK f s p c i pd a now))∧Ext w w':=by
 obtain⟨b1,b2,b3,b4,b5,b6⟩:=eS h2
 have e1:0≤bT f s p c i pd a now:=by unfold bT;rw[if_pos (by simp[h,h2,h3,h4])];omega
 have e2:0≤bT f s p c i pd a a:=by unfold bT;rw[if_pos (by simp[h,h2];omega)];omega
 have hr:jK f s p c i pd a now=(decide (bT f s p c i pd a now=0) || (decide (now-a≤15)&&decide (bT f s p c i pd a a=0))):=by simp[jK,e1]
 have hA:=fun w=>vT f s p c i pd a now w h h2 h3 h4
 have hB:=fun w=>vT f s p c i pd a a w h h2 (by omega) b6
 rw[hr]
 generalize bT f s p c i pd a now=d1 at*
 generalize bT f s p c i pd a a=d2 at*
 by_cases t1:d1=0
 ·rw[show(decide (d1=0) || (decide (now-a≤15)&&decide (d2=0)))=true by simp[t1]]
  exact aGi f s p c i pd a now d1 d2 w e1 e2 h3 h4 (by omega) (by simp[t1]) hA hB
 ·by_cases t2:now-a≤15
  ·by_cases t3:d2=0
   ·rw[show(decide (d1=0) || (decide (now-a≤15)&&decide (d2=0)))=true by simp[t2,t3]]
    exact aGg f s p c i pd a now d1 d2 w e1 e2 h3 h4 (by omega) (by simp[t1]) t2 (by simp[t3]) hA hB
   ·rw[show(decide (d1=0) || (decide (now-a≤15)&&decide (d2=0)))=false by simp[t1,t3]]
    exact aGe f s p c i pd a now d1 d2 w e1 e2 h3 h4 (by omega) (by simp[t1]) t2 (by simp[t3]) hA hB
  ·by_cases t3:d2=0
   ·rw[show(decide (d1=0) || (decide (now-a≤15)&&decide (d2=0)))=false by simp[t1,t2]]
    exact aGh f s p c i pd a now d1 d2 w e1 e2 h3 h4 (by omega) (by simp[t1]) (by omega) (by simp[t3]) hA hB
   ·rw[show(decide (d1=0) || (decide (now-a≤15)&&decide (d2=0)))=false by simp[t1,t2]]
    exact aGf f s p c i pd a now d1 d2 w e1 e2 h3 h4 (by omega) (by simp[t1]) (by omega) (by simp[t3]) hA hB
theorem aFe (f s p c i pd a now d1 d2:Int)(w:World)(h0:0≤d1)(h2:0≤d2)(h3:a≤now)(h4:now≤9999)(h5:0≤a)(t1:(d1==0)=true)
  (HA:Hid (∀w,Calls Tryz.prog 133 #[aR f s p c,bL i pd a,now] w fun e w'=>e= .returned (.int .i64 d1)∧Ext w w'))
  (HB:Hid (∀w,Calls Tryz.prog 133 #[aR f s p c,bL i pd a,a] w fun e w'=>e= .returned (.int .i64 d2)∧Ext w w')):
  Calls Tryz.prog 126 #[aR f s p c,bL i pd a,now] w fun e w'=>e= .returned (.bool true)∧Ext w w':=by
 go_enter Tryz.func126,Tryz.ntmps126
 go_wp2_with fail
 refine(HA.out _).mono ?_
 rintro e w1 ⟨rfl,h1'⟩
 have hz1:w.heap.size<w1.heap.size:=Nat.lt_of_lt_of_le (by simp;omega) h1'.sz
 have hz2:w.heap.size+1<w1.heap.size:=Nat.lt_of_lt_of_le (by simp) h1'.sz
 have hc1:=h1'.cells.1
 go_wp2_with fail
 refine(HA.out _).mono ?_
 rintro e w2 ⟨rfl,h2'⟩
 have hz3:=Nat.lt_of_lt_of_le hz1 h2'.sz
 have hz4:=Nat.lt_of_lt_of_le hz2 h2'.sz
 have hc2:=h2'.cells.1
 go_wp2
 go_ret
 exact⟨aV (by first|rfl|(simp;omega)),by exact .trans (.trans (.alloc (.alloc (.refl _) _) _) h1') h2'⟩
theorem aFd (f s p c i pd a now d1 d2:Int)(w:World)(h0:0≤d1)(h2:0≤d2)(h3:a≤now)(h4:now≤9999)(h5:0≤a)(t1:(d1==0)=false)(t2:15<now-a)(t3:(d2==0)=true)
  (HA:Hid (∀w,Calls Tryz.prog 133 #[aR f s p c,bL i pd a,now] w fun e w'=>e= .returned (.int .i64 d1)∧Ext w w'))
  (HB:Hid (∀w,Calls Tryz.prog 133 #[aR f s p c,bL i pd a,a] w fun e w'=>e= .returned (.int .i64 d2)∧Ext w w')):
  Calls Tryz.prog 126 #[aR f s p c,bL i pd a,now] w fun e w'=>e= .returned (.bool false)∧Ext w w':=by
 go_enter Tryz.func126,Tryz.ntmps126
 go_wp2_with fail
 refine(HA.out _).mono ?_
 rintro e w1 ⟨rfl,h1'⟩
 have hz1:w.heap.size<w1.heap.size:=Nat.lt_of_lt_of_le (by simp;omega) h1'.sz
 have hz2:w.heap.size+1<w1.heap.size:=Nat.lt_of_lt_of_le (by simp) h1'.sz
 have hc1:=h1'.cells.1
 go_wp2_with fail
 refine(HA.out _).mono ?_
 rintro e w2 ⟨rfl,h2'⟩
 have hz3:=Nat.lt_of_lt_of_le hz1 h2'.sz
 have hz4:=Nat.lt_of_lt_of_le hz2 h2'.sz
 have hc2:=h2'.cells.1
 go_wp2_with fail
 refine(HB.out _).mono ?_
 rintro e w3 ⟨rfl,h3'⟩
 have hz5:=Nat.lt_of_lt_of_le hz3 h3'.sz
 have hz6:=Nat.lt_of_lt_of_le hz4 h3'.sz
 have hc3:=h3'.cells.1
 go_wp2
 go_ret
 exact⟨aV (by first|rfl|(simp;omega)),by exact .trans (.trans (.trans (.alloc (.alloc (.refl _) _) _) h1') h2') h3'⟩
theorem aFc (f s p c i pd a now d1 d2:Int)(w:World)(h0:0≤d1)(h2:0≤d2)(h3:a≤now)(h4:now≤9999)(h5:0≤a)(t1:(d1==0)=false)(t2:now-a≤15)(t3:(d2==0)=true)
  (HA:Hid (∀w,Calls Tryz.prog 133 #[aR f s p c,bL i pd a,now] w fun e w'=>e= .returned (.int .i64 d1)∧Ext w w'))
  (HB:Hid (∀w,Calls Tryz.prog 133 #[aR f s p c,bL i pd a,a] w fun e w'=>e= .returned (.int .i64 d2)∧Ext w w')):
  Calls Tryz.prog 126 #[aR f s p c,bL i pd a,now] w fun e w'=>e= .returned (.bool true)∧Ext w w':=by
 go_enter Tryz.func126,Tryz.ntmps126
 go_wp2_with fail
 refine(HA.out _).mono ?_
 rintro e w1 ⟨rfl,h1'⟩
 have hz1:w.heap.size<w1.heap.size:=Nat.lt_of_lt_of_le (by simp;omega) h1'.sz
 have hz2:w.heap.size+1<w1.heap.size:=Nat.lt_of_lt_of_le (by simp) h1'.sz
 have hc1:=h1'.cells.1
 go_wp2_with fail
 refine(HA.out _).mono ?_
 rintro e w2 ⟨rfl,h2'⟩
 have hz3:=Nat.lt_of_lt_of_le hz1 h2'.sz
 have hz4:=Nat.lt_of_lt_of_le hz2 h2'.sz
 have hc2:=h2'.cells.1
 go_wp2_with fail
 refine(HB.out _).mono ?_
 rintro e w3 ⟨rfl,h3'⟩
 have hz5:=Nat.lt_of_lt_of_le hz3 h3'.sz
 have hz6:=Nat.lt_of_lt_of_le hz4 h3'.sz
 have hc3:=h3'.cells.1
 go_wp2
 go_ret
 exact⟨aV (by first|rfl|(simp;omega)),by exact .trans (.trans (.trans (.alloc (.alloc (.refl _) _) _) h1') h2') h3'⟩
theorem aFb (f s p c i pd a now d1 d2:Int)(w:World)(h0:0≤d1)(h2:0≤d2)(h3:a≤now)(h4:now≤9999)(h5:0≤a)(t1:(d1==0)=false)(t2:15<now-a)(t3:(d2==0)=false)
  (HA:Hid (∀w,Calls Tryz.prog 133 #[aR f s p c,bL i pd a,now] w fun e w'=>e= .returned (.int .i64 d1)∧Ext w w'))
  (HB:Hid (∀w,Calls Tryz.prog 133 #[aR f s p c,bL i pd a,a] w fun e w'=>e= .returned (.int .i64 d2)∧Ext w w')):
  Calls Tryz.prog 126 #[aR f s p c,bL i pd a,now] w fun e w'=>e= .returned (.bool false)∧Ext w w':=by
 go_enter Tryz.func126,Tryz.ntmps126
 go_wp2_with fail
 refine(HA.out _).mono ?_
 rintro e w1 ⟨rfl,h1'⟩
 have hz1:w.heap.size<w1.heap.size:=Nat.lt_of_lt_of_le (by simp;omega) h1'.sz
 have hz2:w.heap.size+1<w1.heap.size:=Nat.lt_of_lt_of_le (by simp) h1'.sz
 have hc1:=h1'.cells.1
 go_wp2_with fail
 refine(HA.out _).mono ?_
 rintro e w2 ⟨rfl,h2'⟩
 have hz3:=Nat.lt_of_lt_of_le hz1 h2'.sz
 have hz4:=Nat.lt_of_lt_of_le hz2 h2'.sz
 have hc2:=h2'.cells.1
 go_wp2_with fail
 refine(HB.out _).mono ?_
 rintro e w3 ⟨rfl,h3'⟩
 have hz5:=Nat.lt_of_lt_of_le hz3 h3'.sz
 have hz6:=Nat.lt_of_lt_of_le hz4 h3'.sz
 have hc3:=h3'.cells.1
 go_wp2
 go_ret
 exact⟨aV (by first|rfl|(simp;omega)),by exact .trans (.trans (.trans (.alloc (.alloc (.refl _) _) _) h1') h2') h3'⟩
theorem aFa (f s p c i pd a now d1 d2:Int)(w:World)(h0:0≤d1)(h2:0≤d2)(h3:a≤now)(h4:now≤9999)(h5:0≤a)(t1:(d1==0)=false)(t2:now-a≤15)(t3:(d2==0)=false)
  (HA:Hid (∀w,Calls Tryz.prog 133 #[aR f s p c,bL i pd a,now] w fun e w'=>e= .returned (.int .i64 d1)∧Ext w w'))
  (HB:Hid (∀w,Calls Tryz.prog 133 #[aR f s p c,bL i pd a,a] w fun e w'=>e= .returned (.int .i64 d2)∧Ext w w')):
  Calls Tryz.prog 126 #[aR f s p c,bL i pd a,now] w fun e w'=>e= .returned (.bool false)∧Ext w w':=by
 go_enter Tryz.func126,Tryz.ntmps126
 go_wp2_with fail
 refine(HA.out _).mono ?_
 rintro e w1 ⟨rfl,h1'⟩
 have hz1:w.heap.size<w1.heap.size:=Nat.lt_of_lt_of_le (by simp;omega) h1'.sz
 have hz2:w.heap.size+1<w1.heap.size:=Nat.lt_of_lt_of_le (by simp) h1'.sz
 have hc1:=h1'.cells.1
 go_wp2_with fail
 refine(HA.out _).mono ?_
 rintro e w2 ⟨rfl,h2'⟩
 have hz3:=Nat.lt_of_lt_of_le hz1 h2'.sz
 have hz4:=Nat.lt_of_lt_of_le hz2 h2'.sz
 have hc2:=h2'.cells.1
 go_wp2_with fail
 refine(HB.out _).mono ?_
 rintro e w3 ⟨rfl,h3'⟩
 have hz5:=Nat.lt_of_lt_of_le hz3 h3'.sz
 have hz6:=Nat.lt_of_lt_of_le hz4 h3'.sz
 have hc3:=h3'.cells.1
 go_wp2
 go_ret
 exact⟨aV (by first|rfl|(simp;omega)),by exact .trans (.trans (.trans (.alloc (.alloc (.refl _) _) _) h1') h2') h3'⟩
theorem aIk (f s p c i pd a now:Int)(w:World)(h:bH f s p c=true)(h2:cP i pd a=true)(h3:a≤now)(h4:now≤9999):Calls Tryz.prog 126 #[aR f s p c,bL i pd a,now] w fun e w'=>e= .returned (.bool (jK f s p c i pd a now))∧Ext w w':=by
 obtain⟨b1,b2,b3,b4,b5,b6⟩:=eS h2
 have e1:0≤bT f s p c i pd a now:=by unfold bT;rw[if_pos (by simp[h,h2,h3,h4])];omega
 have e2:0≤bT f s p c i pd a a:=by unfold bT;rw[if_pos (by simp[h,h2];omega)];omega
 have hr:jK f s p c i pd a now=(decide (bT f s p c i pd a now=0) || (decide (now-a≤15)&&decide (bT f s p c i pd a a=0))):=by simp[jK,e1]
 have hA:=fun w=>uY f s p c i pd a now w h h2 h3 h4
 have hB:=fun w=>uY f s p c i pd a a w h h2 (by omega) b6
 rw[hr]
 generalize bT f s p c i pd a now=d1 at*
 generalize bT f s p c i pd a a=d2 at*
 by_cases t1:d1=0
 ·rw[show(decide (d1=0) || (decide (now-a≤15)&&decide (d2=0)))=true by simp[t1]]
  exact aFe f s p c i pd a now d1 d2 w e1 e2 h3 h4 (by omega) (by simp[t1]) hA hB
 ·by_cases t2:now-a≤15
  ·by_cases t3:d2=0
   ·rw[show(decide (d1=0) || (decide (now-a≤15)&&decide (d2=0)))=true by simp[t2,t3]]
    exact aFc f s p c i pd a now d1 d2 w e1 e2 h3 h4 (by omega) (by simp[t1]) t2 (by simp[t3]) hA hB
   ·rw[show(decide (d1=0) || (decide (now-a≤15)&&decide (d2=0)))=false by simp[t1,t3]]
    exact aFa f s p c i pd a now d1 d2 w e1 e2 h3 h4 (by omega) (by simp[t1]) t2 (by simp[t3]) hA hB
  ·by_cases t3:d2=0
   ·rw[show(decide (d1=0) || (decide (now-a≤15)&&decide (d2=0)))=false by simp[t1,t2]]
    exact aFd f s p c i pd a now d1 d2 w e1 e2 h3 h4 (by omega) (by simp[t1]) (by omega) (by simp[t3]) hA hB
   ·rw[show(decide (d1=0) || (decide (now-a≤15)&&decide (d2=0)))=false by simp[t1,t2]]
    exact aFb f s p c i pd a now d1 d2 w e1 e2 h3 h4 (by omega) (by simp[t1]) (by omega) (by simp[t3]) hA hB
end Go.Proofs.YtgnkoffndhmhpaaGreatDoor
namespace Go.Proofs.YtgnkoffndhmhpaaGreatDoor
open Go.RowKit
set_option linter.unusedVariables false
def jL (x:Int):List Int→List Int
 | []=> [x]
 |y::ys=>if y<x then y::jL x ys else x::y::ys
def eQ (xs:List Int):List Int:=xs.foldl (fun acc x=>jL x acc) []
def dA (xs:List Int):List Int:=xs.filter (fun x=>decide (0<x))
def cZ (xs:List Int):List Int:=eQ (dA xs)
theorem kP (x:Int): ∀xs,List.Perm (jL x xs) (x::xs):=by
 intro xs
 induction xs with
 |nil=>exact List.Perm.refl _
 |cons y ys ih=>
  unfold jL
  split
  ·exact(List.Perm.cons y ih).trans (List.Perm.swap x y ys)
  ·exact List.Perm.refl _
theorem qF (x:Int): ∀xs,xs.Pairwise (·≤ ·)→(jL x xs).Pairwise (·≤ ·):=by
 intro xs
 induction xs with
 |nil=>intro _;simp[jL]
 |cons y ys ih=>
  intro h
  rw[List.pairwise_cons]at h
  unfold jL
  split
  ·rename_i hlt
   rw[List.pairwise_cons]
   refine⟨fun z hz=> ?_,ih h.2⟩
   rcases List.mem_cons.1 ((kP x ys).mem_iff.1 hz)with rfl|hz
   ·omega
   ·exact h.1 z hz
  ·rename_i hge
   rw[List.pairwise_cons,List.pairwise_cons]
   refine⟨fun z hz=> ?_,h⟩
   rcases List.mem_cons.1 hz with rfl|hz
   ·omega
   ·have:=h.1 z hz;omega
theorem rI (xs:List Int)(x:Int):eQ (xs++ [x])=jL x (eQ xs):=by simp[eQ,List.foldl_append]
theorem xP (xs:List Int):List.Perm (eQ xs) xs∧(eQ xs).Pairwise (·≤ ·):=by
 suffices h: ∀(n:Nat) (xs:List Int),xs.length=n→List.Perm (eQ xs) xs∧(eQ xs).Pairwise (·≤ ·)from h _ xs rfl
 intro n
 induction n with
 |zero=>intro xs h;obtain rfl:=List.eq_nil_of_length_eq_zero h;simp[eQ]
 |succ n ih=>
  intro xs h
  have hne:xs≠ []:=by intro e;rw[e]at h;simp at h
  rw[←List.dropLast_concat_getLast hne,rI]
  obtain⟨h1,h2⟩:=ih xs.dropLast (by simp[h])
  refine⟨?_,qF _ _ h2⟩
  exact(kP _ _).trans ((List.Perm.cons _ h1).trans (List.perm_append_singleton _ _).symm)
theorem iJ (xs:List Int):List.Perm (eQ xs) xs:=(xP xs).1
theorem iY (xs:List Int):(eQ xs).Pairwise (·≤ ·):=(xP xs).2
theorem tN (xs:List Int):(eQ xs).length=xs.length:=(iJ xs).length_eq
theorem jX (xs:List Int)(x:Int):dA (xs++ [x])=dA xs++(if 0<x then [x]else []):=by
 unfold dA;rw[List.filter_append];congr 1
 by_cases h:0<x<;>simp[h]
theorem iK (xs:List Int):(dA xs).length≤xs.length:=List.length_filter_le _ _
theorem gC (xs:List Int):(cZ xs).length=(dA xs).length:=tN _
theorem kV {xs ys:List Int}(h:List.Perm ys xs)(hs:ys.Pairwise (·≤ ·)):ys=eQ xs:=
 List.Perm.eq_of_pairwise (fun a b _ _ h1 h2=>Int.le_antisymm h1 h2) hs (iY xs) (h.trans (iJ xs).symm)
abbrev aQ:=Int×Int×Int×Int
def aD (v:aQ):List Value:= [.int .i64 v.1,.int .i64 v.2.1,.int .i64 v.2.2.1,.int .i64 v.2.2.2]
structure aT where
 aA:Int
 aB:Int
 cells:List Int
 free:Int
 step:Int
 aE:Int
 aF:Int
 aC:Int
 aG:Int
 vs:List aQ
def eM (aC:Int)(v:aQ):Bool:=cP v.2.1 v.2.2.1 v.2.2.2&&decide (v.2.2.2≤aC)
def bU (aC:Int):List Int→List aQ→Bool
 | [],[]=>true
 |c::cs,v::vs=>decide (v.1=c)&&eM aC v&&bU aC cs vs
 |_,_=>false
def iV (h:aT):Bool:=decide (0≤h.aC∧h.aC≤9999∧0≤h.aG∧h.aG≤99999)
def bK (h:aT):Bool:=aP h.aA h.aB h.cells&&bH h.free h.step h.aE h.aF&&iV h&&bU h.aC (cZ h.cells) h.vs
theorem pY {aC:Int}{cs:List Int}{vs:List aQ}{k:Nat}{c:Int}{v:aQ}(hc:cs[k]? =some c) (hv:vs[k]? =some v):
  bU aC (cs.drop k) (vs.drop k)=(decide (v.1=c)&&eM aC v&&bU aC (cs.drop (k+1)) (vs.drop (k+1))):=by
 rw[mS hc,mS hv];rfl
theorem iX {aC:Int}: ∀ {cs:List Int} {vs:List aQ},bU aC cs vs=true→vs.map (·.1)=cs∧ ∀v∈vs,eM aC v=true:=by
 intro cs
 induction cs with
 |nil=>intro vs h;cases vs with
  |nil=>simp
  |cons v vs=>simp[bU]at h
 |cons c cs ih=>
  intro vs h
  cases vs with
  |nil=>simp[bU]at h
  |cons v vs=>
   simp only[bU,Bool.and_eq_true,decide_eq_true_eq]at h
   obtain⟨⟨h1,h2⟩,h3⟩:=h
   obtain⟨i1,i2⟩:=ih h3
   refine⟨by simp[h1,i1],fun x hx=> ?_⟩
   rcases List.mem_cons.1 hx with rfl|hx
   ·exact h2
   ·exact i2 x hx
theorem pX {aC:Int}{cs:List Int}{vs:List aQ}(h:cs.length≠vs.length):bU aC cs vs=false:=by
 cases hh:bU aC cs vs with
 |false=>rfl
 |true=>
  have:=congrArg List.length (iX hh).1
  simp at this
  omega
def eN (id:Int)(vs:List aQ):Option aQ:=vs.find? (fun v=>v.1==id)
def dB (h:aT)(id:Int):Option (Int×Int×Int):=if bK h then(eN id h.vs).map (·.2)else none
def cT (h:aT)(id:Int):Int:=match dB h id with
 |some s=>bT h.free h.step h.aE h.aF s.1 s.2.1 s.2.2 h.aC
 |none=> -1
def eC (h:aT)(id:Int):Bool:=match dB h id with
 |some s=>jK h.free h.step h.aE h.aF s.1 s.2.1 s.2.2 h.aC
 |none=>false
def zT (h:aT)(v:aQ):Int:=bT h.free h.step h.aE h.aF v.2.1 v.2.2.1 v.2.2.2 h.aC
def cV (h:aT):List Int:=if bK h then
  (if(0:Int)∈h.cells then cZ h.cells else h.cells.headD 0::(cZ h.cells).filter (fun x=>x !=h.cells.headD 0))else []
abbrev TI:TypeId:=3
def dF (aA aB:Int)(xs:List Int)(w:World)(e:Ending)(w':World):Prop:=
 ∃p cap,e= .returned (aI aA aB p xs.length cap)∧w'.ownsRow w.heap.size TI 1 (.slice p xs.length cap) xs.length (ivs xs)∧Ext w w'
theorem aDs (n:Nat):(madeCells (Value.int .i64 0).cells (n*1)).toList=ivs (List.replicate n 0):=by
 apply List.ext_getElem<;>simp[madeCells,Value.cells,Nat.mod_one]
theorem rK {aA aB:Int}{p:OA}{n cap:Nat}{xs:List Int}{w w':World}(hn:xs.length=n)(ho:w'.ownsRow w.heap.size TI 1 (.slice p n cap) n (ivs xs))(hx:Ext w w'):dF aA aB xs w (.returned (aI aA aB p n cap)) w':=by
 subst hn;exact⟨p,cap,rfl,ho,hx⟩
section
variable {P:Program} (w:World)
theorem sZ {t e ty:TypeId}{sz:Nat}(E:ElT P t e sz)(base:Nat)(v:Value)(n:Nat)(xs:List Value)(hown:w.ownsRow base e sz v n xs)(p:OA)(m c:Nat)(news:List Value)(hs:Sl w p m c sz news)
  (h1: ∀u∈news,u.oneCell'=true)(hn:n+m≤1099511627776)(hbase:base≤w.heap.size):
  ∃p' cap' w',(Builtin.append_ #[t,t] ty #[v,.slice p m c]).run P w= .ok (.slice p' (n+m) cap') w'∧w'.ownsRow base e sz (.slice p' (n+m) cap') (n+m) (xs++news)∧w.grownBy w' v.ownBlock:=by
 obtain⟨i,z,hi,hz,hsz,hby,hzs⟩:=E.info
 cases p with
 |none=>
  have hm:m=0:=by
   rcases Nat.eq_zero_or_pos m with h0|h0
   ·exact h0
   ·obtain⟨b,off,h,_⟩:=hs.rd h0;cases h
  subst hm
  have hnews:news= []:=List.eq_nil_of_length_eq_zero (by simpa using hs.len)
  subst hnews
  obtain⟨q,cap,rfl⟩:=lR hown
  refine⟨q,cap,w,?_,by simpa using hown,World.grownBy.refl w _⟩
  rcases hown.2 with⟨h2,h3⟩|⟨g,cap',cur,h2,_,_,hnc,_⟩
  ·injection h2 with e1 e2 e3
   subst e1 e2 e3
   simp[Builtin.append_,run_underlying E.ht,sizeOf,typeInfo,hi,Builtin.lenOf,Builtin.firstCells]
  ·injection h2 with e1 e2 e3
   subst e1 e3
   simp[Builtin.append_,run_underlying E.ht,sizeOf,typeInfo,hi,Builtin.lenOf,Builtin.firstCells,hnc,storeCells]
 |some ad=>
  have hcells: ∀j u,news[j]? =some u→w.cell? (ad.add j)=some u:=by
   intro j u hu
   rcases Nat.eq_zero_or_pos m with h0|h0
   ·subst h0
    have hnews:news= []:=List.eq_nil_of_length_eq_zero (by simpa using hs.len)
    subst hnews
    simp at hu
   ·obtain⟨b,off,h,_,hc⟩:=hs.rd h0
    injection h with h
    subst h
    rw[jS,hc j (by rw[←hs.len];exact(List.getElem?_eq_some_iff.1 hu).1)]
    exact hu
  have hbb:(n+m)*i.bytes≤140737488355328:=by
   have:(n+m)*i.bytes≤(n+m)*64:=Nat.mul_le_mul_left _ hby
   omega
  obtain⟨v',w',hrun,h2,h3,_,_⟩:=run_append_own_at (P:=P) w base t ty e i z sz i.bytes E.ht hi hz hsz rfl hzs E.pos v n xs hown ad m c news hs.len hcells h1 (by unfold maxLen;omega) hbb hbase
  obtain⟨q,cap,rfl⟩:=lR h2
  exact⟨q,cap,w',hrun,h2,h3⟩
theorem uQ {o:Oper}{a:Act}{K:Act→World→Prop}{Q:Exit→Act→World→Prop}{t e:TypeId}{sz:Nat}(E:ElT P t e sz)(s x:Operand)
  (ho:o.op= .call {callee:= .builtin .append,args:=#[s,x],argTypes:=#[t,t]})
  (base:Nat)(v:Value)(n:Nat)(xs:List Value)(hs:a.eval s=v)(hown:w.ownsRow base e sz v n xs)
  (p:OA)(m c:Nat)(news:List Value)(hx:a.eval x= .slice p m c)(hr:Sl w p m c sz news)(h1: ∀u∈news,u.oneCell'=true)
  (hn:n+m≤1099511627776)(hbase:base≤w.heap.size)
  (h: ∀p' cap' w',w'.ownsRow base e sz (.slice p' (n+m) cap') (n+m) (xs++news)→w.grownBy w' v.ownBlock→K (a.put o.dst (.slice p' (n+m) cap')) w'):o.wp P a w K Q:=by
 obtain⟨p',cap',w',hrun,h2,h3⟩:=sZ (ty:=o.type) w E base v n xs hown p m c news hr h1 hn hbase
 unfold Oper.wp execOp
 simp only[ho,resolve,invoke,builtin,Sem.run_bind,Sem.run_pure,Result.andThen_ok,List.map_toArray,List.map_cons,List.map_nil,hs,hx,hrun]
 exact h p' cap' w' h2 h3
theorem gZ {ops:Array Oper}{o:Oper}{a:Act}{K:Act→World→Prop}{Q:Exit→Act→World→Prop}{E0:Prop}{t e:TypeId}{sz:Nat}(E:ElT P t e sz)(hgd:o.guard=none)(s x:Operand)
  (ho:o.op= .call {callee:= .builtin .append,args:=#[s,x],argTypes:=#[t,t]})
  (base:Nat)(v:Value)(n:Nat)(xs:List Value)(hs:a.eval s=v)(hown:w.ownsRow base e sz v n xs)
  (p:OA)(m c:Nat)(news:List Value)(hx:a.eval x= .slice p m c)(hr:Sl w p m c sz news)(h1: ∀u∈news,u.oneCell'=true)
  (hn:n+m≤1099511627776)(hbase:base≤w.heap.size)
  (h: ∀p' cap' w',w'.ownsRow base e sz (.slice p' (n+m) cap') (n+m) (xs++news)→w.grownBy w' v.ownBlock→K (a.put o.dst (.slice p' (n+m) cap')) w'):
  if Region.wanted o (yielded ops a.tmps)=true then Oper.wp P o a w K Q else E0:=by
 have hw:Region.wanted o (yielded ops a.tmps)=true:=by simp[Region.wanted,hgd]
 rw[if_pos hw]
 exact uQ w E s x ho base v n xs hs hown p m c news hx hr h1 hn hbase h
end
theorem mP (xs:List Int): ∀u∈ivs xs,u.oneCell'=true:=by
 intro u hu
 obtain⟨x,_,rfl⟩:=List.mem_map.1 hu
 rfl
end Go.Proofs.YtgnkoffndhmhpaaGreatDoor
namespace Go.Proofs.YtgnkoffndhmhpaaGreatDoor
open Go.RowKit
set_option linter.unusedVariables false
set_option maxHeartbeats 8000000
set_option maxRecDepth 100000
def aY (xs:List Int)(w:World)(e:Ending)(w':World):Prop:=
 ∃p cap,e= .returned (.slice p xs.length cap)∧w'.ownsRow w.heap.size TI 1 (.slice p xs.length cap) xs.length (ivs xs)∧Ext w w'
theorem cQ {p:OA}{n cap:Nat}{xs:List Int}{w w':World}(hn:xs.length=n)(ho:w'.ownsRow w.heap.size TI 1 (.slice p n cap) n (ivs xs))(hx:Ext w w'):aY xs w (.returned (.slice p n cap)) w':=by
 subst hn;exact⟨p,cap,rfl,ho,hx⟩
theorem aCh: ∀(xs:List Int) (k:Nat) (x:Int),(∀y∈xs.take k,y<x)→(∀y,xs[k]? =some y→ ¬y<x)→jL x xs=xs.take k++x::xs.drop k:=by
 intro xs
 induction xs with
 |nil=>intro k x _ _;simp[jL]
 |cons y ys ih=>
  intro k x h1 h2
  cases k with
  |zero=>
   have:=h2 y rfl
   simp[jL,this]
  |succ k=>
   have h3:y<x:=h1 y (by simp)
   rw[jL,if_pos h3,ih k x (fun z hz=>h1 z (by simp[hz])) (fun z hz=>h2 z (by simpa using hz))]
   simp
theorem aG7 (x:Int)(xs:List Int):(jL x xs).length=xs.length+1:=(kP x xs).length_eq
theorem aHq {w:World}{b off n cap k:Nat}{xs:List Int}(h:Sl w (some ⟨b,off,none⟩) n cap 1 (ivs xs))(hk:k≤n):Sl w (some ⟨b,off+k,none⟩) (n-k) (cap-k) 1 (ivs (xs.drop k)):=by
 have hl:=h.ilen
 have hle:=h.le
 have hmx:=h.mx
 refine⟨by simp;omega,by omega,by omega,fun h0=> ?_⟩
 obtain⟨b',off',e,hb,hc⟩:=h.rd (by omega)
 injection e with e;injection e with e1 e2
 subst e1 e2
 refine⟨_,_,rfl,hb,fun j hj=> ?_⟩
 rw[Nat.add_assoc,hc (k+j) (by omega)]
 simp
theorem aHp (w:World)(p:OA){c:Nat}(hc:c≤maxLen):Sl w p 0 c 1 (ivs []):=⟨by simp,Nat.zero_le _,hc,fun h=>absurd h (by omega)⟩
theorem vQ (p:OA)(n cap:Nat)(xs:List Int)(x:Int)(w:World)(hn:n≤1000000)(hS:Sl w p n cap 1 (ivs xs)):
  Calls Tryz.prog 136 #[.slice p n cap,x] w (aY (jL x xs) w):=by
 have hl:=xQ hS.ilen
 have hncap:=hS.le
 have hcm:=hS.mx
 unfold maxLen at hcm
 have HS:=xQ hS
 clear hS
 go_enter Tryz.func136,Tryz.ntmps136
 go_wp2
 go_loopw [5,6] (fun v i wr=> ∃(k:Nat) (q:OA) (c:Nat),k≤n∧i= .int .i64 k∧v= .slice q k c∧wr.ownsRow w.heap.size TI 1 (.slice q k c) k (ivs (xs.take k))∧(∀y∈xs.take k,y<x)∧Ext w wr) (fun _ i _=>n-(intOf i).toNat)
 case atStart=>exact⟨0,_,0,Nat.zero_le _,rfl,rfl,World.ownsRow_made _ #[] 0 (Nat.le_refl _) (by simp[maxLen]) rfl,by simp,by exact .alloc (.refl _) _⟩
 case round=>
  obtain⟨k,q,c,hk,rfl,rfl,hown,hlt',hE⟩:=hrel
  have HO:=xQ hown
  have HL:=xQ hlt'
  have hsz:=hE.sz
  clear hown hlt'
  by_cases hlt:k<n
  ·obtain⟨b,off,y,rfl,hx,hb,hcell⟩:=(HS.out.ext hE).int_at hlt
   have HX:=xQ hx
   clear hx
   by_cases hy:y<x
   ·have hfin:Hid (∀z∈xs.take (k+1),z<x):=by
     show∀z∈xs.take (k+1),z<x
     rw[bF HX.out]
     intro z hz
     rcases List.mem_append.1 hz with h|h
     ·exact HL.out z h
     ·simp at h;omega
    go_wp2_with (at_builtin;refine cA eP rfl _ _ rfl w.heap.size _ _ _ rfl (HO.out.alloc _) _ _ y _ rfl (by simp) (by omega) (by simp;omega) ?_;intro p' cap' w1 hown1 hg1;have HO1:=xQ hown1;have hE1:Ext w w1:=Ext.own (hE.alloc _) (HO.out.alloc _) hg1 (Nat.le_refl _);clear hown1 hg1)
    go_roundw
    case rel=>exact⟨k+1,p',cap',by omega,by go_num,rfl,by rw[bF HX.out];exact HO1.out,hfin.out,hE1⟩
    case measure=>simp[intOf];omega
   ·have hfin:Hid (jL x xs=xs.take k++x::xs.drop k):=aCh xs k x HL.out (fun z hz=>by rw[HX.out]at hz;injection hz with hz;subst hz;exact hy)
    have i1:(0:Int)≤(k:Int):=by omega
    have i2:(k:Int)≤(n:Int):=by omega
    have hck: ¬cap=k:=by omega
    go_wp2
    go_region_law ((first
     |(refine gZ _ eP (by rfl) _ _ (by rfl) w.heap.size _ k (ivs (xs.take k)) (by rfl) (by first|exact HO.out|exact HO.out.alloc _|exact(HO.out.alloc _).drew|exact(HO.out.drew).alloc _|exact HO.out.drew) _ 1 1 [iv x] (by rfl) (by first|exact Sl.new wr #[iv x] _ 1 rfl (by decide)|exact(Sl.new wr #[iv x] _ 1 rfl (by decide)).ext (Ext.drew (Ext.refl _))|exact Sl.new wr.drew #[iv x] _ 1 rfl (by decide)) (mP [x]) (by omega) (by simp;omega) ?_
       intro p1 c1 w1 hown1 hg1
       have hE1:Ext w w1:=Ext.own (by exact .drew (.alloc hE _)) (by first|exact HO.out|exact HO.out.alloc _|exact(HO.out.alloc _).drew|exact(HO.out.drew).alloc _|exact HO.out.drew) hg1 (Nat.le_refl _)
       have HO1:=xQ hown1
       have HS1:=xQ (HS.out.ext hE1)
       have hz1:=hE1.sz
       clear hown1 hg1)
     |(refine gZ _ eP (by rfl) _ _ (by rfl) w.heap.size _ (k+1) (ivs (xs.take k)++ [iv x]) (by rfl) HO1.out _ (n-k) (cap-k) (ivs (xs.drop k)) (by rfl) (aHq HS1.out (by omega)) (mP _) (by omega) (by omega) ?_
       intro p2 c2 w2 hown2 hg2
       have hE2:Ext w w2:=Ext.own hE1 HO1.out hg2 (Nat.le_refl _)
       have HO2:=xQ hown2
       clear hown2 hg2)))
    all_goals go_wp2
    all_goals go_ret
    all_goals exact cQ (by rw[hfin.out];simp;rw[hl.out];omega) (by rw[hfin.out];simpa using HO2.out) hE2
  ·obtain rfl:k=n:=by omega
   have hfin:Hid (jL x xs=xs++ [x]):=by
    have:=aCh xs k x HL.out (fun z hz=>by rw[List.getElem?_eq_none (by rw[hl.out];exact Nat.le_refl _)]at hz;cases hz)
    show _=_
    rw[this,List.take_of_length_le (by rw[hl.out];exact Nat.le_refl _),List.drop_eq_nil_of_le (by rw[hl.out];exact Nat.le_refl _)]
   have i1:(0:Int)≤(k:Int):=by omega
   go_wp2
   go_region_law ((first
    |(refine gZ _ eP (by rfl) _ _ (by rfl) w.heap.size _ k (ivs (xs.take k)) (by rfl) (by first|exact HO.out|exact HO.out.alloc _|exact(HO.out.alloc _).drew|exact(HO.out.drew).alloc _|exact HO.out.drew) _ 1 1 [iv x] (by rfl) (by first|exact Sl.new wr #[iv x] _ 1 rfl (by decide)|exact(Sl.new wr #[iv x] _ 1 rfl (by decide)).ext (Ext.drew (Ext.refl _))|exact Sl.new wr.drew #[iv x] _ 1 rfl (by decide)) (mP [x]) (by omega) (by simp;omega) ?_
      intro p1 c1 w1 hown1 hg1
      have hE1:Ext w w1:=Ext.own (by exact .drew (.alloc hE _)) (by first|exact HO.out|exact HO.out.alloc _|exact(HO.out.alloc _).drew|exact(HO.out.drew).alloc _|exact HO.out.drew) hg1 (Nat.le_refl _)
      have HO1:=xQ hown1
      have HS1:=xQ (HS.out.ext hE1)
      have hz1:=hE1.sz
      clear hown1 hg1)
    |(refine gZ _ eP (by rfl) _ _ (by rfl) w.heap.size _ (k+1) (ivs (xs.take k)++ [iv x]) (by rfl) HO1.out _ 0 _ (ivs []) (by rfl) (aHp _ _ (by unfold maxLen;omega)) (mP _) (by omega) (by omega) ?_
      intro p2 c2 w2 hown2 hg2
      have hE2:Ext w w2:=Ext.own hE1 HO1.out hg2 (Nat.le_refl _)
      have HO2:=xQ hown2
      clear hown2 hg2)))
   all_goals go_wp2
   all_goals go_ret
   all_goals exact cQ (by rw[hfin.out];simp;rw[hl.out]) (by rw[hfin.out];have:=HO2.out;rw[List.take_of_length_le (by rw[hl.out];exact Nat.le_refl _)]at this;simpa using this) hE2
end Go.Proofs.YtgnkoffndhmhpaaGreatDoor
