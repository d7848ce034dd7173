/-
  Texts of this proof, packed (@packed).
-/
import Derived.Deep.AppendLies
import Derived.Deep.RegionLaw
import Derived.Maps.AppendAt
import Derived.RegionTactic
import Derived.Test.YtahglfakiobbcaaGreatDoorK1
import Derived.Test.YtahglfakiobbcaaGreatDoorK2
namespace Go.Proofs.YtahglfakiobbcaaGreatDoor
open Go.RowKit
set_option linter.unusedVariables false
set_option maxRecDepth 100000 in
set_option maxHeartbeats 1000000 in
theorem zH (f s p c i pd a now:Int)(w:World)(h:bD f s p c=true)(h2:cI i pd a=true)(h3:a≤now)(h4:now≤9999):Calls Tryz.prog 116 #[aS f s p c,bK i pd a,.int .i64 now] w fun e w'=>e= .returned (.int .i64 (bS f s p c i pd a now))∧Ext w w':=by
 obtain⟨b1,b2,b3,b4,b5,b6⟩:=eO h2
 have HT:Hid (∀w,Calls Tryz.prog 74 #[aS f s p c] w fun e w'=>e= .returned (.bool true)∧Ext w w'):=fun w=>by rw[←h];exact tV f s p c w
 have HS:Hid (∀w,Calls Tryz.prog 76 #[bK i pd a] w fun e w'=>e= .returned (.bool true)∧Ext w w'):=fun w=>by rw[←h2];exact aDz i pd a w
 obtain⟨q,hq⟩: ∃q,q=jR f s p c (now-i):=⟨_,rfl⟩
 have hqb:0≤q∧q≤693:=by rw[hq];exact mY h (by omega) (by omega)
 have HF:Hid (∀w,Calls Tryz.prog 136 #[aS f s p c,.int .i64 (now-i)] w fun e w'=>e= .returned (.int .i64 q)∧Ext w w'):=fun w=>by rw[hq];exact aGf f s p c _ w h (by omega) (by omega)
 have hres:bS f s p c i pd a now=max (q-pd) 0:=by rw[hq];simp[bS,h,h2,h3,h4]
 rw[hres]
 clear hq hres h h2
 go_enter Tryz.func116,Tryz.ntmps116
 go_wp2_with fail
 refine(HT.out _).mono ?_
 rintro e w1 ⟨rfl,h1'⟩
 have hz1:w.heap.size<w1.heap.size:=Nat.lt_of_lt_of_le (by simp;omega) h1'.sz
 have hz2:w.heap.size+1<w1.heap.size:=Nat.lt_of_lt_of_le (by simp) h1'.sz
 have e0:w1.cell? ⟨w.heap.size,0,none⟩=some (.int .i64 f):=by rw[h1'.cells.1 _ _ (by simp;omega)];simp
 have e1:w1.cell? ⟨w.heap.size,1,none⟩=some (.int .i64 s):=by rw[h1'.cells.1 _ _ (by simp;omega)];simp
 have e2:w1.cell? ⟨w.heap.size,2,none⟩=some (.int .i64 p):=by rw[h1'.cells.1 _ _ (by simp;omega)];simp
 have e3:w1.cell? ⟨w.heap.size,3,none⟩=some (.int .i64 c):=by rw[h1'.cells.1 _ _ (by simp;omega)];simp
 have g0:w1.cell? ⟨w.heap.size+1,0,none⟩=some (.int .i64 i):=by rw[h1'.cells.1 _ _ (by simp)];simp
 have g1:w1.cell? ⟨w.heap.size+1,1,none⟩=some (.int .i64 pd):=by rw[h1'.cells.1 _ _ (by simp)];simp
 have g2:w1.cell? ⟨w.heap.size+1,2,none⟩=some (.int .i64 a):=by rw[h1'.cells.1 _ _ (by simp)];simp
 go_wp2_with (first|(go_at_call 76;refine(HS.out _).mono ?_;rintro e w2 ⟨rfl,h2'⟩;have hc2:=h2'.cells.1;have hz3:w.heap.size<w2.heap.size:=Nat.lt_of_lt_of_le hz1 h2'.sz;have hz4:w.heap.size+1<w2.heap.size:=Nat.lt_of_lt_of_le hz2 h2'.sz)|go_in)
 have k1:IntKind.i64.wrap (now-i)=now-i:=IntWalk.i64_in _ (by omega)
 have k2:IntKind.i64.wrap (q-pd)=q-pd:=IntWalk.i64_in _ (by omega)
 go_region_held3 (fun w'=>w'.cell? ⟨w.heap.size,0,none⟩=some (.int .i64 f)∧w'.cell? ⟨w.heap.size,1,none⟩=some (.int .i64 s)∧w'.cell? ⟨w.heap.size,2,none⟩=some (.int .i64 p)∧w'.cell? ⟨w.heap.size,3,none⟩=some (.int .i64 c)∧w'.cell? ⟨w.heap.size+1,0,none⟩=some (.int .i64 i)∧w'.cell? ⟨w.heap.size+1,1,none⟩=some (.int .i64 pd)) (go_keep)
  ((go_at_call 136;refine(HF.out _).mono ?_;rintro e w3 ⟨rfl,h3'⟩;(try replace h3':=h3'.of_drew);have hc3:=h3'.cells.1;have hz5:w.heap.size<w3.heap.size:=Nat.lt_of_lt_of_le (by assumption) h3'.sz;have hz6:w.heap.size+1<w3.heap.size:=Nat.lt_of_lt_of_le (by assumption) h3'.sz))
 all_goals clear k1 k2
 all_goals go_wp2
 all_goals go_ret
 all_goals exact⟨dR (by omega),by exact .trans (.trans (.trans (.alloc (.alloc (.refl _) _) _) h1') h2') h3'⟩
set_option maxRecDepth 100000 in
set_option maxHeartbeats 1000000 in
theorem xW (f s p c i pd a now:Int)(w:World)(h:bD f s p c=true)(h2:cI i pd a=true)(h3:a≤now)(h4:now≤9999):Calls Tryz.prog 100 #[aS f s p c,bK i pd a,.int .i64 now] w fun e w'=>e= .returned (.int .i64 (bS f s p c i pd a now))∧Ext w w':=by
 obtain⟨b1,b2,b3,b4,b5,b6⟩:=eO h2
 have HT:Hid (∀w,Calls Tryz.prog 59 #[aS f s p c] w fun e w'=>e= .returned (.bool true)∧Ext w w'):=fun w=>by rw[←h];exact tG f s p c w
 have HS:Hid (∀w,Calls Tryz.prog 60 #[bK i pd a] w fun e w'=>e= .returned (.bool true)∧Ext w w'):=fun w=>by rw[←h2];exact aCw i pd a w
 obtain⟨q,hq⟩: ∃q,q=jR f s p c (now-i):=⟨_,rfl⟩
 have hqb:0≤q∧q≤693:=by rw[hq];exact mY h (by omega) (by omega)
 have HF:Hid (∀w,Calls Tryz.prog 126 #[aS f s p c,.int .i64 (now-i)] w fun e w'=>e= .returned (.int .i64 q)∧Ext w w'):=fun w=>by rw[hq];exact aG0 f s p c _ w h (by omega) (by omega)
 have hres:bS f s p c i pd a now=max (q-pd) 0:=by rw[hq];simp[bS,h,h2,h3,h4]
 rw[hres]
 clear hq hres h h2
 go_enter Tryz.func100,Tryz.ntmps100
 go_wp2_with fail
 refine(HT.out _).mono ?_
 rintro e w1 ⟨rfl,h1'⟩
 have hz1:w.heap.size<w1.heap.size:=Nat.lt_of_lt_of_le (by simp;omega) h1'.sz
 have hz2:w.heap.size+1<w1.heap.size:=Nat.lt_of_lt_of_le (by simp) h1'.sz
 have e0:w1.cell? ⟨w.heap.size,0,none⟩=some (.int .i64 f):=by rw[h1'.cells.1 _ _ (by simp;omega)];simp
 have e1:w1.cell? ⟨w.heap.size,1,none⟩=some (.int .i64 s):=by rw[h1'.cells.1 _ _ (by simp;omega)];simp
 have e2:w1.cell? ⟨w.heap.size,2,none⟩=some (.int .i64 p):=by rw[h1'.cells.1 _ _ (by simp;omega)];simp
 have e3:w1.cell? ⟨w.heap.size,3,none⟩=some (.int .i64 c):=by rw[h1'.cells.1 _ _ (by simp;omega)];simp
 have g0:w1.cell? ⟨w.heap.size+1,0,none⟩=some (.int .i64 i):=by rw[h1'.cells.1 _ _ (by simp)];simp
 have g1:w1.cell? ⟨w.heap.size+1,1,none⟩=some (.int .i64 pd):=by rw[h1'.cells.1 _ _ (by simp)];simp
 have g2:w1.cell? ⟨w.heap.size+1,2,none⟩=some (.int .i64 a):=by rw[h1'.cells.1 _ _ (by simp)];simp
 go_wp2_with (first|(go_at_call 60;refine(HS.out _).mono ?_;rintro e w2 ⟨rfl,h2'⟩;have hc2:=h2'.cells.1;have hz3:w.heap.size<w2.heap.size:=Nat.lt_of_lt_of_le hz1 h2'.sz;have hz4:w.heap.size+1<w2.heap.size:=Nat.lt_of_lt_of_le hz2 h2'.sz)|go_in)
 have k1:IntKind.i64.wrap (now-i)=now-i:=IntWalk.i64_in _ (by omega)
 have k2:IntKind.i64.wrap (q-pd)=q-pd:=IntWalk.i64_in _ (by omega)
 go_region_held3 (fun w'=>w'.cell? ⟨w.heap.size,0,none⟩=some (.int .i64 f)∧w'.cell? ⟨w.heap.size,1,none⟩=some (.int .i64 s)∧w'.cell? ⟨w.heap.size,2,none⟩=some (.int .i64 p)∧w'.cell? ⟨w.heap.size,3,none⟩=some (.int .i64 c)∧w'.cell? ⟨w.heap.size+1,0,none⟩=some (.int .i64 i)∧w'.cell? ⟨w.heap.size+1,1,none⟩=some (.int .i64 pd)) (go_keep)
  ((go_at_call 126;refine(HF.out _).mono ?_;rintro e w3 ⟨rfl,h3'⟩;(try replace h3':=h3'.of_drew);have hc3:=h3'.cells.1;have hz5:w.heap.size<w3.heap.size:=Nat.lt_of_lt_of_le (by assumption) h3'.sz;have hz6:w.heap.size+1<w3.heap.size:=Nat.lt_of_lt_of_le (by assumption) h3'.sz))
 all_goals clear k1 k2
 all_goals go_wp2
 all_goals go_ret
 all_goals exact⟨dR (by omega),by exact .trans (.trans (.trans (.alloc (.alloc (.refl _) _) _) h1') h2') h3'⟩
set_option maxRecDepth 100000 in
set_option maxHeartbeats 1000000 in
theorem aE6 (f s p c i pd a now d1 d2:Int)(w:World)(h0:0≤d1)(h2:0≤d2)(h3:a≤now)(h4:now≤9999)(h5:0≤a)(t1:(d1==0)=true)
  (HA:Hid (∀w,Calls Tryz.prog 116 #[aS f s p c,bK i pd a,.int .i64 now] w fun e w'=>e= .returned (.int .i64 d1)∧Ext w w'))
  (HB:Hid (∀w,Calls Tryz.prog 116 #[aS f s p c,bK i pd a,.int .i64 a] w fun e w'=>e= .returned (.int .i64 d2)∧Ext w w')):
  Calls Tryz.prog 118 #[aS f s p c,bK i pd a,.int .i64 now] w fun e w'=>e= .returned (.bool true)∧Ext w w':=by
 go_enter Tryz.func118,Tryz.ntmps118
 go_wp2_with fail
 refine(HA.out _).mono ?_
 rintro e w1 ⟨rfl,h1'⟩
 have hz1:w.heap.size<w1.heap.size:=Nat.lt_of_lt_of_le (by simp;omega) h1'.sz
 have hz2:w.heap.size+1<w1.heap.size:=Nat.lt_of_lt_of_le (by simp) h1'.sz
 have hc1:=h1'.cells.1
 go_wp2
 go_ret
 exact⟨aT (by first|rfl|(simp;omega)),by exact .trans (.alloc (.alloc (.refl _) _) _) h1'⟩
set_option maxRecDepth 100000 in
set_option maxHeartbeats 1000000 in
theorem aE5 (f s p c i pd a now d1 d2:Int)(w:World)(h0:0≤d1)(h2:0≤d2)(h3:a≤now)(h4:now≤9999)(h5:0≤a)(t1:(d1==0)=false)(t2:15<now-a)(t3:(d2==0)=true)
  (HA:Hid (∀w,Calls Tryz.prog 116 #[aS f s p c,bK i pd a,.int .i64 now] w fun e w'=>e= .returned (.int .i64 d1)∧Ext w w'))
  (HB:Hid (∀w,Calls Tryz.prog 116 #[aS f s p c,bK i pd a,.int .i64 a] w fun e w'=>e= .returned (.int .i64 d2)∧Ext w w')):
  Calls Tryz.prog 118 #[aS f s p c,bK i pd a,.int .i64 now] w fun e w'=>e= .returned (.bool false)∧Ext w w':=by
 go_enter Tryz.func118,Tryz.ntmps118
 go_wp2_with fail
 refine(HA.out _).mono ?_
 rintro e w1 ⟨rfl,h1'⟩
 have hz1:w.heap.size<w1.heap.size:=Nat.lt_of_lt_of_le (by simp;omega) h1'.sz
 have hz2:w.heap.size+1<w1.heap.size:=Nat.lt_of_lt_of_le (by simp) h1'.sz
 have hc1:=h1'.cells.1
 go_wp2
 go_ret
 exact⟨aT (by first|rfl|(simp;omega)),by exact .trans (.alloc (.alloc (.refl _) _) _) h1'⟩
set_option maxRecDepth 100000 in
set_option maxHeartbeats 1000000 in
theorem aE4 (f s p c i pd a now d1 d2:Int)(w:World)(h0:0≤d1)(h2:0≤d2)(h3:a≤now)(h4:now≤9999)(h5:0≤a)(t1:(d1==0)=false)(t2:now-a≤15)(t3:(d2==0)=true)
  (HA:Hid (∀w,Calls Tryz.prog 116 #[aS f s p c,bK i pd a,.int .i64 now] w fun e w'=>e= .returned (.int .i64 d1)∧Ext w w'))
  (HB:Hid (∀w,Calls Tryz.prog 116 #[aS f s p c,bK i pd a,.int .i64 a] w fun e w'=>e= .returned (.int .i64 d2)∧Ext w w')):
  Calls Tryz.prog 118 #[aS f s p c,bK i pd a,.int .i64 now] w fun e w'=>e= .returned (.bool true)∧Ext w w':=by
 go_enter Tryz.func118,Tryz.ntmps118
 go_wp2_with fail
 refine(HA.out _).mono ?_
 rintro e w1 ⟨rfl,h1'⟩
 have hz1:w.heap.size<w1.heap.size:=Nat.lt_of_lt_of_le (by simp;omega) h1'.sz
 have hz2:w.heap.size+1<w1.heap.size:=Nat.lt_of_lt_of_le (by simp) h1'.sz
 have hc1:=h1'.cells.1
 go_wp2_with fail
 refine(HB.out _).mono ?_
 rintro e w2 ⟨rfl,h2'⟩
 have hz3:=Nat.lt_of_lt_of_le hz1 h2'.sz
 have hz4:=Nat.lt_of_lt_of_le hz2 h2'.sz
 have hc2:=h2'.cells.1
 go_wp2
 go_ret
 exact⟨aT (by first|rfl|(simp;omega)),by exact .trans (.trans (.alloc (.alloc (.refl _) _) _) h1') h2'⟩
set_option maxRecDepth 100000 in
set_option maxHeartbeats 1000000 in
theorem aE3 (f s p c i pd a now d1 d2:Int)(w:World)(h0:0≤d1)(h2:0≤d2)(h3:a≤now)(h4:now≤9999)(h5:0≤a)(t1:(d1==0)=false)(t2:15<now-a)(t3:(d2==0)=false)
  (HA:Hid (∀w,Calls Tryz.prog 116 #[aS f s p c,bK i pd a,.int .i64 now] w fun e w'=>e= .returned (.int .i64 d1)∧Ext w w'))
  (HB:Hid (∀w,Calls Tryz.prog 116 #[aS f s p c,bK i pd a,.int .i64 a] w fun e w'=>e= .returned (.int .i64 d2)∧Ext w w')):
  Calls Tryz.prog 118 #[aS f s p c,bK i pd a,.int .i64 now] w fun e w'=>e= .returned (.bool false)∧Ext w w':=by
 go_enter Tryz.func118,Tryz.ntmps118
 go_wp2_with fail
 refine(HA.out _).mono ?_
 rintro e w1 ⟨rfl,h1'⟩
 have hz1:w.heap.size<w1.heap.size:=Nat.lt_of_lt_of_le (by simp;omega) h1'.sz
 have hz2:w.heap.size+1<w1.heap.size:=Nat.lt_of_lt_of_le (by simp) h1'.sz
 have hc1:=h1'.cells.1
 go_wp2
 go_ret
 exact⟨aT (by first|rfl|(simp;omega)),by exact .trans (.alloc (.alloc (.refl _) _) _) h1'⟩
set_option maxRecDepth 100000 in
set_option maxHeartbeats 1000000 in
theorem aE2 (f s p c i pd a now d1 d2:Int)(w:World)(h0:0≤d1)(h2:0≤d2)(h3:a≤now)(h4:now≤9999)(h5:0≤a)(t1:(d1==0)=false)(t2:now-a≤15)(t3:(d2==0)=false)
  (HA:Hid (∀w,Calls Tryz.prog 116 #[aS f s p c,bK i pd a,.int .i64 now] w fun e w'=>e= .returned (.int .i64 d1)∧Ext w w'))
  (HB:Hid (∀w,Calls Tryz.prog 116 #[aS f s p c,bK i pd a,.int .i64 a] w fun e w'=>e= .returned (.int .i64 d2)∧Ext w w')):
  Calls Tryz.prog 118 #[aS f s p c,bK i pd a,.int .i64 now] w fun e w'=>e= .returned (.bool false)∧Ext w w':=by
 go_enter Tryz.func118,Tryz.ntmps118
 go_wp2_with fail
 refine(HA.out _).mono ?_
 rintro e w1 ⟨rfl,h1'⟩
 have hz1:w.heap.size<w1.heap.size:=Nat.lt_of_lt_of_le (by simp;omega) h1'.sz
 have hz2:w.heap.size+1<w1.heap.size:=Nat.lt_of_lt_of_le (by simp) h1'.sz
 have hc1:=h1'.cells.1
 go_wp2_with fail
 refine(HB.out _).mono ?_
 rintro e w2 ⟨rfl,h2'⟩
 have hz3:=Nat.lt_of_lt_of_le hz1 h2'.sz
 have hz4:=Nat.lt_of_lt_of_le hz2 h2'.sz
 have hc2:=h2'.cells.1
 go_wp2
 go_ret
 exact⟨aT (by first|rfl|(simp;omega)),by exact .trans (.trans (.alloc (.alloc (.refl _) _) _) h1') h2'⟩
theorem aGa (f s p c i pd a now:Int)(w:World)(h:bD f s p c=true)(h2:cI i pd a=true)(h3:a≤now)(h4:now≤9999):Calls Tryz.prog 118 #[aS f s p c,bK i pd a,.int .i64 now] w fun e w'=>e= .returned (.bool (iQ f s p c i pd a now))∧Ext w w':=by
 obtain⟨b1,b2,b3,b4,b5,b6⟩:=eO h2
 have e1:0≤bS f s p c i pd a now:=by unfold bS;rw[if_pos (by simp[h,h2,h3,h4])];omega
 have e2:0≤bS f s p c i pd a a:=by unfold bS;rw[if_pos (by simp[h,h2];omega)];omega
 have hr:iQ f s p c i pd a now=(decide (bS f s p c i pd a now=0) || (decide (now-a≤15)&&decide (bS f s p c i pd a a=0))):=by simp[iQ,e1]
 have hA:=fun w=>zH f s p c i pd a now w h h2 h3 h4
 have hB:=fun w=>zH f s p c i pd a a w h h2 (by omega) b6
 rw[hr]
 generalize bS f s p c i pd a now=d1 at*
 generalize bS f s p c i pd a a=d2 at*
 by_cases t1:d1=0
 ·rw[show(decide (d1=0) || (decide (now-a≤15)&&decide (d2=0)))=true by simp[t1]]
  exact aE6 f s p c i pd a now d1 d2 w e1 e2 h3 h4 (by omega) (by simp[t1]) hA hB
 ·by_cases t2:now-a≤15
  ·by_cases t3:d2=0
   ·rw[show(decide (d1=0) || (decide (now-a≤15)&&decide (d2=0)))=true by simp[t2,t3]]
    exact aE4 f s p c i pd a now d1 d2 w e1 e2 h3 h4 (by omega) (by simp[t1]) t2 (by simp[t3]) hA hB
   ·rw[show(decide (d1=0) || (decide (now-a≤15)&&decide (d2=0)))=false by simp[t1,t3]]
    exact aE2 f s p c i pd a now d1 d2 w e1 e2 h3 h4 (by omega) (by simp[t1]) t2 (by simp[t3]) hA hB
  ·by_cases t3:d2=0
   ·rw[show(decide (d1=0) || (decide (now-a≤15)&&decide (d2=0)))=false by simp[t1,t2]]
    exact aE5 f s p c i pd a now d1 d2 w e1 e2 h3 h4 (by omega) (by simp[t1]) (by omega) (by simp[t3]) hA hB
   ·rw[show(decide (d1=0) || (decide (now-a≤15)&&decide (d2=0)))=false by simp[t1,t2]]
    exact aE3 f s p c i pd a now d1 d2 w e1 e2 h3 h4 (by omega) (by simp[t1]) (by omega) (by simp[t3]) hA hB
set_option maxRecDepth 100000 in
set_option maxHeartbeats 1000000 in
theorem aD5 (f s p c i pd a now d1 d2:Int)(w:World)(h0:0≤d1)(h2:0≤d2)(h3:a≤now)(h4:now≤9999)(h5:0≤a)(t1:(d1==0)=true)
  (HA:Hid (∀w,Calls Tryz.prog 100 #[aS f s p c,bK i pd a,.int .i64 now] w fun e w'=>e= .returned (.int .i64 d1)∧Ext w w'))
  (HB:Hid (∀w,Calls Tryz.prog 100 #[aS f s p c,bK i pd a,.int .i64 a] w fun e w'=>e= .returned (.int .i64 d2)∧Ext w w')):
  Calls Tryz.prog 69 #[aS f s p c,bK i pd a,.int .i64 now] w fun e w'=>e= .returned (.bool true)∧Ext w w':=by
 go_enter Tryz.func69,Tryz.ntmps69
 go_wp2_with fail
 refine(HA.out _).mono ?_
 rintro e w1 ⟨rfl,h1'⟩
 have hz1:w.heap.size<w1.heap.size:=Nat.lt_of_lt_of_le (by simp;omega) h1'.sz
 have hz2:w.heap.size+1<w1.heap.size:=Nat.lt_of_lt_of_le (by simp) h1'.sz
 have hc1:=h1'.cells.1
 go_wp2_with fail
 refine(HA.out _).mono ?_
 rintro e w2 ⟨rfl,h2'⟩
 have hz3:=Nat.lt_of_lt_of_le hz1 h2'.sz
 have hz4:=Nat.lt_of_lt_of_le hz2 h2'.sz
 have hc2:=h2'.cells.1
 go_wp2
 go_ret
 exact⟨aT (by first|rfl|(simp;omega)),by exact .trans (.trans (.alloc (.alloc (.refl _) _) _) h1') h2'⟩
set_option maxRecDepth 100000 in
set_option maxHeartbeats 1000000 in
theorem aD4 (f s p c i pd a now d1 d2:Int)(w:World)(h0:0≤d1)(h2:0≤d2)(h3:a≤now)(h4:now≤9999)(h5:0≤a)(t1:(d1==0)=false)(t2:15<now-a)(t3:(d2==0)=true)
  (HA:Hid (∀w,Calls Tryz.prog 100 #[aS f s p c,bK i pd a,.int .i64 now] w fun e w'=>e= .returned (.int .i64 d1)∧Ext w w'))
  (HB:Hid (∀w,Calls Tryz.prog 100 #[aS f s p c,bK i pd a,.int .i64 a] w fun e w'=>e= .returned (.int .i64 d2)∧Ext w w')):
  Calls Tryz.prog 69 #[aS f s p c,bK i pd a,.int .i64 now] w fun e w'=>e= .returned (.bool false)∧Ext w w':=by
 go_enter Tryz.func69,Tryz.ntmps69
 go_wp2_with fail
 refine(HA.out _).mono ?_
 rintro e w1 ⟨rfl,h1'⟩
 have hz1:w.heap.size<w1.heap.size:=Nat.lt_of_lt_of_le (by simp;omega) h1'.sz
 have hz2:w.heap.size+1<w1.heap.size:=Nat.lt_of_lt_of_le (by simp) h1'.sz
 have hc1:=h1'.cells.1
 go_wp2_with fail
 refine(HA.out _).mono ?_
 rintro e w2 ⟨rfl,h2'⟩
 have hz3:=Nat.lt_of_lt_of_le hz1 h2'.sz
 have hz4:=Nat.lt_of_lt_of_le hz2 h2'.sz
 have hc2:=h2'.cells.1
 go_wp2_with fail
 refine(HB.out _).mono ?_
 rintro e w3 ⟨rfl,h3'⟩
 have hz5:=Nat.lt_of_lt_of_le hz3 h3'.sz
 have hz6:=Nat.lt_of_lt_of_le hz4 h3'.sz
 have hc3:=h3'.cells.1
 go_wp2
 go_ret
 exact⟨aT (by first|rfl|(simp;omega)),by exact .trans (.trans (.trans (.alloc (.alloc (.refl _) _) _) h1') h2') h3'⟩
set_option maxRecDepth 100000 in
set_option maxHeartbeats 1000000 in
theorem aD3 (f s p c i pd a now d1 d2:Int)(w:World)(h0:0≤d1)(h2:0≤d2)(h3:a≤now)(h4:now≤9999)(h5:0≤a)(t1:(d1==0)=false)(t2:now-a≤15)(t3:(d2==0)=true)
  (HA:Hid (∀w,Calls Tryz.prog 100 #[aS f s p c,bK i pd a,.int .i64 now] w fun e w'=>e= .returned (.int .i64 d1)∧Ext w w'))
  (HB:Hid (∀w,Calls Tryz.prog 100 #[aS f s p c,bK i pd a,.int .i64 a] w fun e w'=>e= .returned (.int .i64 d2)∧Ext w w')):
  Calls Tryz.prog 69 #[aS f s p c,bK i pd a,.int .i64 now] w fun e w'=>e= .returned (.bool true)∧Ext w w':=by
 go_enter Tryz.func69,Tryz.ntmps69
 go_wp2_with fail
 refine(HA.out _).mono ?_
 rintro e w1 ⟨rfl,h1'⟩
 have hz1:w.heap.size<w1.heap.size:=Nat.lt_of_lt_of_le (by simp;omega) h1'.sz
 have hz2:w.heap.size+1<w1.heap.size:=Nat.lt_of_lt_of_le (by simp) h1'.sz
 have hc1:=h1'.cells.1
 go_wp2_with fail
 refine(HA.out _).mono ?_
 rintro e w2 ⟨rfl,h2'⟩
 have hz3:=Nat.lt_of_lt_of_le hz1 h2'.sz
 have hz4:=Nat.lt_of_lt_of_le hz2 h2'.sz
 have hc2:=h2'.cells.1
 go_wp2_with fail
 refine(HB.out _).mono ?_
 rintro e w3 ⟨rfl,h3'⟩
 have hz5:=Nat.lt_of_lt_of_le hz3 h3'.sz
 have hz6:=Nat.lt_of_lt_of_le hz4 h3'.sz
 have hc3:=h3'.cells.1
 go_wp2
 go_ret
 exact⟨aT (by first|rfl|(simp;omega)),by exact .trans (.trans (.trans (.alloc (.alloc (.refl _) _) _) h1') h2') h3'⟩
set_option maxRecDepth 100000 in
set_option maxHeartbeats 1000000 in
theorem aD2 (f s p c i pd a now d1 d2:Int)(w:World)(h0:0≤d1)(h2:0≤d2)(h3:a≤now)(h4:now≤9999)(h5:0≤a)(t1:(d1==0)=false)(t2:15<now-a)(t3:(d2==0)=false)
  (HA:Hid (∀w,Calls Tryz.prog 100 #[aS f s p c,bK i pd a,.int .i64 now] w fun e w'=>e= .returned (.int .i64 d1)∧Ext w w'))
  (HB:Hid (∀w,Calls Tryz.prog 100 #[aS f s p c,bK i pd a,.int .i64 a] w fun e w'=>e= .returned (.int .i64 d2)∧Ext w w')):
  Calls Tryz.prog 69 #[aS f s p c,bK i pd a,.int .i64 now] w fun e w'=>e= .returned (.bool false)∧Ext w w':=by
 go_enter Tryz.func69,Tryz.ntmps69
 go_wp2_with fail
 refine(HA.out _).mono ?_
 rintro e w1 ⟨rfl,h1'⟩
 have hz1:w.heap.size<w1.heap.size:=Nat.lt_of_lt_of_le (by simp;omega) h1'.sz
 have hz2:w.heap.size+1<w1.heap.size:=Nat.lt_of_lt_of_le (by simp) h1'.sz
 have hc1:=h1'.cells.1
 go_wp2_with fail
 refine(HA.out _).mono ?_
 rintro e w2 ⟨rfl,h2'⟩
 have hz3:=Nat.lt_of_lt_of_le hz1 h2'.sz
 have hz4:=Nat.lt_of_lt_of_le hz2 h2'.sz
 have hc2:=h2'.cells.1
 go_wp2_with fail
 refine(HB.out _).mono ?_
 rintro e w3 ⟨rfl,h3'⟩
 have hz5:=Nat.lt_of_lt_of_le hz3 h3'.sz
 have hz6:=Nat.lt_of_lt_of_le hz4 h3'.sz
 have hc3:=h3'.cells.1
 go_wp2
 go_ret
 exact⟨aT (by first|rfl|(simp;omega)),by exact .trans (.trans (.trans (.alloc (.alloc (.refl _) _) _) h1') h2') h3'⟩
set_option maxRecDepth 100000 in
set_option maxHeartbeats 1000000 in
theorem aD1 (f s p c i pd a now d1 d2:Int)(w:World)(h0:0≤d1)(h2:0≤d2)(h3:a≤now)(h4:now≤9999)(h5:0≤a)(t1:(d1==0)=false)(t2:now-a≤15)(t3:(d2==0)=false)
  (HA:Hid (∀w,Calls Tryz.prog 100 #[aS f s p c,bK i pd a,.int .i64 now] w fun e w'=>e= .returned (.int .i64 d1)∧Ext w w'))
  (HB:Hid (∀w,Calls Tryz.prog 100 #[aS f s p c,bK i pd a,.int .i64 a] w fun e w'=>e= .returned (.int .i64 d2)∧Ext w w')):
  Calls Tryz.prog 69 #[aS f s p c,bK i pd a,.int .i64 now] w fun e w'=>e= .returned (.bool false)∧Ext w w':=by
 go_enter Tryz.func69,Tryz.ntmps69
 go_wp2_with fail
 refine(HA.out _).mono ?_
 rintro e w1 ⟨rfl,h1'⟩
 have hz1:w.heap.size<w1.heap.size:=Nat.lt_of_lt_of_le (by simp;omega) h1'.sz
 have hz2:w.heap.size+1<w1.heap.size:=Nat.lt_of_lt_of_le (by simp) h1'.sz
 have hc1:=h1'.cells.1
 go_wp2_with fail
 refine(HA.out _).mono ?_
 rintro e w2 ⟨rfl,h2'⟩
 have hz3:=Nat.lt_of_lt_of_le hz1 h2'.sz
 have hz4:=Nat.lt_of_lt_of_le hz2 h2'.sz
 have hc2:=h2'.cells.1
 go_wp2_with fail
 refine(HB.out _).mono ?_
 rintro e w3 ⟨rfl,h3'⟩
 have hz5:=Nat.lt_of_lt_of_le hz3 h3'.sz
 have hz6:=Nat.lt_of_lt_of_le hz4 h3'.sz
 have hc3:=h3'.cells.1
 go_wp2
 go_ret
 exact⟨aT (by first|rfl|(simp;omega)),by exact .trans (.trans (.trans (.alloc (.alloc (.refl _) _) _) h1') h2') h3'⟩
theorem aFy (f s p c i pd a now:Int)(w:World)(h:bD f s p c=true)(h2:cI i pd a=true)(h3:a≤now)(h4:now≤9999):Calls Tryz.prog 69 #[aS f s p c,bK i pd a,.int .i64 now] w fun e w'=>e= .returned (.bool (iQ f s p c i pd a now))∧Ext w w':=by
 obtain⟨b1,b2,b3,b4,b5,b6⟩:=eO h2
 have e1:0≤bS f s p c i pd a now:=by unfold bS;rw[if_pos (by simp[h,h2,h3,h4])];omega
 have e2:0≤bS f s p c i pd a a:=by unfold bS;rw[if_pos (by simp[h,h2];omega)];omega
 have hr:iQ f s p c i pd a now=(decide (bS f s p c i pd a now=0) || (decide (now-a≤15)&&decide (bS f s p c i pd a a=0))):=by simp[iQ,e1]
 have hA:=fun w=>xW f s p c i pd a now w h h2 h3 h4
 have hB:=fun w=>xW f s p c i pd a a w h h2 (by omega) b6
 rw[hr]
 generalize bS f s p c i pd a now=d1 at*
 generalize bS f s p c i pd a a=d2 at*
 by_cases t1:d1=0
 ·rw[show(decide (d1=0) || (decide (now-a≤15)&&decide (d2=0)))=true by simp[t1]]
  exact aD5 f s p c i pd a now d1 d2 w e1 e2 h3 h4 (by omega) (by simp[t1]) hA hB
 ·by_cases t2:now-a≤15
  ·by_cases t3:d2=0
   ·rw[show(decide (d1=0) || (decide (now-a≤15)&&decide (d2=0)))=true by simp[t2,t3]]
    exact aD3 f s p c i pd a now d1 d2 w e1 e2 h3 h4 (by omega) (by simp[t1]) t2 (by simp[t3]) hA hB
   ·rw[show(decide (d1=0) || (decide (now-a≤15)&&decide (d2=0)))=false by simp[t1,t3]]
    exact aD1 f s p c i pd a now d1 d2 w e1 e2 h3 h4 (by omega) (by simp[t1]) t2 (by simp[t3]) hA hB
  ·by_cases t3:d2=0
   ·rw[show(decide (d1=0) || (decide (now-a≤15)&&decide (d2=0)))=false by simp[t1,t2]]
    exact aD4 f s p c i pd a now d1 d2 w e1 e2 h3 h4 (by omega) (by simp[t1]) (by omega) (by simp[t3]) hA hB
   ·rw[show(decide (d1=0) || (decide (now-a≤15)&&decide (d2=0)))=false by simp[t1,t2]]
    exact aD2 f s p c i pd a now d1 d2 w e1 e2 h3 h4 (by omega) (by simp[t1]) (by omega) (by simp[t3]) hA hB
def iR (x:Int):List Int→List Int
 | []=> [x]
 |y::ys=>if y<x then y::iR x ys else x::y::ys
def eC (xs:List Int):List Int:=xs.foldl (fun acc x=>iR x acc) []
def cT (xs:List Int):List Int:=xs.filter (fun x=>decide (0<x))
def dZ (xs:List Int):List Int:=eC (cT xs)
theorem jO (x:Int): ∀xs,List.Perm (iR x xs) (x::xs):=by
 intro xs
 induction xs with
 |nil=>exact List.Perm.refl _
 |cons y ys ih=>
  unfold iR
  split
  ·exact(List.Perm.cons y ih).trans (List.Perm.swap x y ys)
  ·exact List.Perm.refl _
theorem oN (x:Int): ∀xs,xs.Pairwise (·≤ ·)→(iR x xs).Pairwise (·≤ ·):=by
 intro xs
 induction xs with
 |nil=>intro _;simp[iR]
 |cons y ys ih=>
  intro h
  rw[List.pairwise_cons]at h
  unfold iR
  split
  ·rename_i hlt
   rw[List.pairwise_cons]
   refine⟨fun z hz=> ?_,ih h.2⟩
   rcases List.mem_cons.1 ((jO x ys).mem_iff.1 hz)with rfl|hz
   ·omega
   ·exact h.1 z hz
  ·rename_i hge
   rw[List.pairwise_cons,List.pairwise_cons]
   refine⟨fun z hz=> ?_,h⟩
   rcases List.mem_cons.1 hz with rfl|hz
   ·omega
   ·have:=h.1 z hz;omega
theorem pV (xs:List Int)(x:Int):eC (xs++ [x])=iR x (eC xs):=by simp[eC,List.foldl_append]
theorem vH (xs:List Int):List.Perm (eC xs) xs∧(eC xs).Pairwise (·≤ ·):=by
 suffices h: ∀(n:Nat) (xs:List Int),xs.length=n→List.Perm (eC xs) xs∧(eC xs).Pairwise (·≤ ·)from h _ xs rfl
 intro n
 induction n with
 |zero=>intro xs h;obtain rfl:=List.eq_nil_of_length_eq_zero h;simp[eC]
 |succ n ih=>
  intro xs h
  have hne:xs≠ []:=by intro e;rw[e]at h;simp at h
  rw[←List.dropLast_concat_getLast hne,pV]
  obtain⟨h1,h2⟩:=ih xs.dropLast (by simp[h])
  refine⟨?_,oN _ _ h2⟩
  exact(jO _ _).trans ((List.Perm.cons _ h1).trans (List.perm_append_singleton _ _).symm)
theorem iN (xs:List Int):List.Perm (eC xs) xs:=(vH xs).1
theorem iF (xs:List Int):(eC xs).Pairwise (·≤ ·):=(vH xs).2
theorem rU (xs:List Int):(eC xs).length=xs.length:=(iN xs).length_eq
theorem iZ (xs:List Int)(x:Int):cT (xs++ [x])=cT xs++(if 0<x then [x]else []):=by
 unfold cT;rw[List.filter_append];congr 1
 by_cases h:0<x<;>simp[h]
theorem nR (xs:List Int):(cT xs).length≤xs.length:=List.length_filter_le _ _
theorem mD (xs:List Int):(dZ xs).length=(cT xs).length:=rU _
theorem jW {xs ys:List Int}(h:List.Perm ys xs)(hs:ys.Pairwise (·≤ ·)):ys=eC xs:=
 List.Perm.eq_of_pairwise (fun a b _ _ h1 h2=>Int.le_antisymm h1 h2) hs (iF xs) (h.trans (iN xs).symm)
abbrev aQ:=Int×Int×Int×Int
def aC (v:aQ):List Value:= [.int .i64 v.1,.int .i64 v.2.1,.int .i64 v.2.2.1,.int .i64 v.2.2.2]
structure bJ where
 aA:Int
 aB:Int
 cells:List Int
 free:Int
 step:Int
 aE:Int
 aG:Int
 aD:Int
 aH:Int
 vs:List aQ
def eJ (aD:Int)(v:aQ):Bool:=cI v.2.1 v.2.2.1 v.2.2.2&&decide (v.2.2.2≤aD)
def bO (aD:Int):List Int→List aQ→Bool
 | [],[]=>true
 |c::cs,v::vs=>decide (v.1=c)&&eJ aD v&&bO aD cs vs
 |_,_=>false
def iP (h:bJ):Bool:=decide (0≤h.aD∧h.aD≤9999∧0≤h.aH∧h.aH≤99999)
def cV (h:bJ):Bool:=aP h.aA h.aB h.cells&&bD h.free h.step h.aE h.aG&&iP h&&bO h.aD (dZ h.cells) h.vs
theorem oI {aD:Int}{cs:List Int}{vs:List aQ}{k:Nat}{c:Int}{v:aQ}(hc:cs[k]? =some c) (hv:vs[k]? =some v):
  bO aD (cs.drop k) (vs.drop k)=(decide (v.1=c)&&eJ aD v&&bO aD (cs.drop (k+1)) (vs.drop (k+1))):=by
 rw[lJ hc,lJ hv];rfl
theorem mF {aD:Int}: ∀ {cs:List Int} {vs:List aQ},bO aD cs vs=true→vs.map (·.1)=cs∧ ∀v∈vs,eJ aD v=true:=by
 intro cs
 induction cs with
 |nil=>intro vs h;cases vs with
  |nil=>simp
  |cons v vs=>simp[bO]at h
 |cons c cs ih=>
  intro vs h
  cases vs with
  |nil=>simp[bO]at h
  |cons v vs=>
   simp only[bO,Bool.and_eq_true,decide_eq_true_eq]at h
   obtain⟨⟨h1,h2⟩,h3⟩:=h
   obtain⟨i1,i2⟩:=ih h3
   refine⟨by simp[h1,i1],fun x hx=> ?_⟩
   rcases List.mem_cons.1 hx with rfl|hx
   ·exact h2
   ·exact i2 x hx
theorem oH {aD:Int}{cs:List Int}{vs:List aQ}(h:cs.length≠vs.length):bO aD cs vs=false:=by
 cases hh:bO aD cs vs with
 |false=>rfl
 |true=>
  have:=congrArg List.length (mF hh).1
  simp at this
  omega
def eD (id:Int)(vs:List aQ):Option aQ:=vs.find? (fun v=>v.1==id)
def eB (h:bJ)(id:Int):Option (Int×Int×Int):=if cV h then(eD id h.vs).map (·.2)else none
def dO (h:bJ)(id:Int):Bool:=match eB h id with
 |some s=>iQ h.free h.step h.aE h.aG s.1 s.2.1 s.2.2 h.aD
 |none=>false
abbrev TI:TypeId:=3
def cW (aA aB:Int)(xs:List Int)(w:World)(e:Ending)(w':World):Prop:=
 ∃p cap,e= .returned (aK aA aB p xs.length cap)∧w'.ownsRow w.heap.size TI 1 (.slice p xs.length cap) xs.length (ivs xs)∧Ext w w'
theorem aBn (n:Nat):(madeCells (Value.int .i64 0).cells (n*1)).toList=ivs (List.replicate n 0):=by
 apply List.ext_getElem<;>simp[madeCells,Value.cells,Nat.mod_one]
theorem Blk.three {w:World}{g:Nat}{t:TypeId}{a b c:Value}(h:Blk w g t #[a,b,c]):w.cell? ⟨g,0,none⟩=some a∧w.cell? ⟨g,1,none⟩=some b∧w.cell? ⟨g,2,none⟩=some c∧w.frozen? ⟨g,0,none⟩=false∧w.frozen? ⟨g,1,none⟩=false∧w.frozen? ⟨g,2,none⟩=false:=
 ⟨h.cell 0,h.cell 1,h.cell 2,h.frozen 0,h.frozen 1,h.frozen 2⟩
theorem pX {aA aB:Int}{p:Option Addr}{n cap:Nat}{xs:List Int}{w w':World}(hn:xs.length=n)(ho:w'.ownsRow w.heap.size TI 1 (.slice p n cap) n (ivs xs))(hx:Ext w w'):cW aA aB xs w (.returned (aK aA aB p n cap)) w':=by
 subst hn;exact⟨p,cap,rfl,ho,hx⟩
section
variable {P:Program} (w:World)
theorem rG {t e ty:TypeId}{sz:Nat}(E:ElT P t e sz)(base:Nat)(v:Value)(n:Nat)(xs:List Value)(hown:w.ownsRow base e sz v n xs)(p:Option Addr)(m c:Nat)(news:List Value)(hs:Sl w p m c sz news)
  (h1: ∀u∈news,u.oneCell'=true)(hn:n+m≤1099511627776)(hbase:base≤w.heap.size):
  ∃p' cap' w',(Builtin.append_ #[t,t] ty #[v,.slice p m c]).run P w= .ok (.slice p' (n+m) cap') w'∧w'.ownsRow base e sz (.slice p' (n+m) cap') (n+m) (xs++news)∧w.grownBy w' v.ownBlock:=by
 obtain⟨i,z,hi,hz,hsz,hby,hzs⟩:=E.info
 cases p with
 |none=>
  have hm:m=0:=by
   rcases Nat.eq_zero_or_pos m with h0|h0
   ·exact h0
   ·obtain⟨b,off,h,_⟩:=hs.rd h0;cases h
  subst hm
  have hnews:news= []:=List.eq_nil_of_length_eq_zero (by simpa using hs.len)
  subst hnews
  obtain⟨q,cap,rfl⟩:=kP hown
  refine⟨q,cap,w,?_,by simpa using hown,World.grownBy.refl w _⟩
  rcases hown.2 with⟨h2,h3⟩|⟨g,cap',cur,h2,_,_,hnc,_⟩
  ·injection h2 with e1 e2 e3
   subst e1 e2 e3
   simp[Builtin.append_,run_underlying E.ht,sizeOf,typeInfo,hi,Builtin.lenOf,Builtin.firstCells]
  ·injection h2 with e1 e2 e3
   subst e1 e3
   simp[Builtin.append_,run_underlying E.ht,sizeOf,typeInfo,hi,Builtin.lenOf,Builtin.firstCells,hnc,storeCells]
 |some ad=>
  have hcells: ∀j u,news[j]? =some u→w.cell? (ad.add j)=some u:=by
   intro j u hu
   rcases Nat.eq_zero_or_pos m with h0|h0
   ·subst h0
    have hnews:news= []:=List.eq_nil_of_length_eq_zero (by simpa using hs.len)
    subst hnews
    simp at hu
   ·obtain⟨b,off,h,_,hc⟩:=hs.rd h0
    injection h with h
    subst h
    rw[iV,hc j (by rw[←hs.len];exact(List.getElem?_eq_some_iff.1 hu).1)]
    exact hu
  have hbb:(n+m)*i.bytes≤140737488355328:=by
   have:(n+m)*i.bytes≤(n+m)*64:=Nat.mul_le_mul_left _ hby
   omega
  obtain⟨v',w',hrun,h2,h3,_,_⟩:=run_append_own_at (P:=P) w base t ty e i z sz i.bytes E.ht hi hz hsz rfl hzs E.pos v n xs hown ad m c news hs.len hcells h1 (by unfold maxLen;omega) hbb hbase
  obtain⟨q,cap,rfl⟩:=kP h2
  exact⟨q,cap,w',hrun,h2,h3⟩
theorem tA {o:Oper}{a:Act}{K:Act→World→Prop}{Q:Exit→Act→World→Prop}{t e:TypeId}{sz:Nat}(E:ElT P t e sz)(s x:Operand)
  (ho:o.op= .call {callee:= .builtin .append,args:=#[s,x],argTypes:=#[t,t]})
  (base:Nat)(v:Value)(n:Nat)(xs:List Value)(hs:a.eval s=v)(hown:w.ownsRow base e sz v n xs)
  (p:Option Addr)(m c:Nat)(news:List Value)(hx:a.eval x= .slice p m c)(hr:Sl w p m c sz news)(h1: ∀u∈news,u.oneCell'=true)
  (hn:n+m≤1099511627776)(hbase:base≤w.heap.size)
  (h: ∀p' cap' w',w'.ownsRow base e sz (.slice p' (n+m) cap') (n+m) (xs++news)→w.grownBy w' v.ownBlock→K (a.put o.dst (.slice p' (n+m) cap')) w'):o.wp P a w K Q:=by
 obtain⟨p',cap',w',hrun,h2,h3⟩:=rG (ty:=o.type) w E base v n xs hown p m c news hr h1 hn hbase
 unfold Oper.wp execOp
 simp only[ho,resolve,invoke,builtin,Sem.run_bind,Sem.run_pure,Result.andThen_ok,List.map_toArray,List.map_cons,List.map_nil,hs,hx,hrun]
 exact h p' cap' w' h2 h3
theorem fZ {ops:Array Oper}{o:Oper}{a:Act}{K:Act→World→Prop}{Q:Exit→Act→World→Prop}{E0:Prop}{t e:TypeId}{sz:Nat}(E:ElT P t e sz)(hgd:o.guard=none)(s x:Operand)
  (ho:o.op= .call {callee:= .builtin .append,args:=#[s,x],argTypes:=#[t,t]})
  (base:Nat)(v:Value)(n:Nat)(xs:List Value)(hs:a.eval s=v)(hown:w.ownsRow base e sz v n xs)
  (p:Option Addr)(m c:Nat)(news:List Value)(hx:a.eval x= .slice p m c)(hr:Sl w p m c sz news)(h1: ∀u∈news,u.oneCell'=true)
  (hn:n+m≤1099511627776)(hbase:base≤w.heap.size)
  (h: ∀p' cap' w',w'.ownsRow base e sz (.slice p' (n+m) cap') (n+m) (xs++news)→w.grownBy w' v.ownBlock→K (a.put o.dst (.slice p' (n+m) cap')) w'):
  if Region.wanted o (yielded ops a.tmps)=true then Oper.wp P o a w K Q else E0:=by
 have hw:Region.wanted o (yielded ops a.tmps)=true:=by simp[Region.wanted,hgd]
 rw[if_pos hw]
 exact tA w E s x ho base v n xs hs hown p m c news hx hr h1 hn hbase h
end
theorem lH (xs:List Int): ∀u∈ivs xs,u.oneCell'=true:=by
 intro u hu
 obtain⟨x,_,rfl⟩:=List.mem_map.1 hu
 rfl
end Go.Proofs.YtahglfakiobbcaaGreatDoor
namespace Go.Proofs.YtahglfakiobbcaaGreatDoor
open Go.RowKit
set_option linter.unusedVariables false
def bB (xs:List Int)(w:World)(e:Ending)(w':World):Prop:=
 ∃p cap,e= .returned (.slice p xs.length cap)∧w'.ownsRow w.heap.size TI 1 (.slice p xs.length cap) xs.length (ivs xs)∧Ext w w'
theorem dB {p:Option Addr}{n cap:Nat}{xs:List Int}{w w':World}(hn:xs.length=n)(ho:w'.ownsRow w.heap.size TI 1 (.slice p n cap) n (ivs xs))(hx:Ext w w'):bB xs w (.returned (.slice p n cap)) w':=by
 subst hn;exact⟨p,cap,rfl,ho,hx⟩
theorem aAg: ∀(xs:List Int) (k:Nat) (x:Int),(∀y∈xs.take k,y<x)→(∀y,xs[k]? =some y→ ¬y<x)→iR x xs=xs.take k++x::xs.drop k:=by
 intro xs
 induction xs with
 |nil=>intro k x _ _;simp[iR]
 |cons y ys ih=>
  intro k x h1 h2
  cases k with
  |zero=>
   have:=h2 y rfl
   simp[iR,this]
  |succ k=>
   have h3:y<x:=h1 y (by simp)
   rw[iR,if_pos h3,ih k x (fun z hz=>h1 z (by simp[hz])) (fun z hz=>h2 z (by simpa using hz))]
   simp
theorem aDw (x:Int)(xs:List Int):(iR x xs).length=xs.length+1:=(jO x xs).length_eq
theorem aF9 {w:World}{b off n cap k:Nat}{xs:List Int}(h:Sl w (some ⟨b,off,none⟩) n cap 1 (ivs xs))(hk:k≤n):Sl w (some ⟨b,off+k,none⟩) (n-k) (cap-k) 1 (ivs (xs.drop k)):=by
 have hl:=h.ilen
 have hle:=h.le
 have hmx:=h.mx
 refine⟨by simp;omega,by omega,by omega,fun h0=> ?_⟩
 obtain⟨b',off',e,hb,hc⟩:=h.rd (by omega)
 injection e with e;injection e with e1 e2
 subst e1 e2
 refine⟨_,_,rfl,hb,fun j hj=> ?_⟩
 rw[Nat.add_assoc,hc (k+j) (by omega)]
 simp
theorem aF8 (w:World)(p:Option Addr){c:Nat}(hc:c≤maxLen):Sl w p 0 c 1 (ivs []):=⟨by simp,Nat.zero_le _,hc,fun h=>absurd h (by omega)⟩
set_option maxRecDepth 100000 in
set_option maxHeartbeats 1000000 in
theorem tU (p:Option Addr)(n cap:Nat)(xs:List Int)(x:Int)(w:World)(hn:n≤1000000)(hS:Sl w p n cap 1 (ivs xs)):
  Calls Tryz.prog 96 #[.slice p n cap,.int .i64 x] w (bB (iR x xs) w):=by
 have hl:=xQ hS.ilen
 have hncap:=hS.le
 have hcm:=hS.mx
 unfold maxLen at hcm
 have HS:=xQ hS
 clear hS
 go_enter Tryz.func96,Tryz.ntmps96
 go_wp2
 go_loopw [5,6] (fun v i wr=> ∃(k:Nat) (q:Option Addr) (c:Nat),k≤n∧i= .int .i64 k∧v= .slice q k c∧wr.ownsRow w.heap.size TI 1 (.slice q k c) k (ivs (xs.take k))∧(∀y∈xs.take k,y<x)∧Ext w wr) (fun _ i _=>n-(intOf i).toNat)
 case atStart=>exact⟨0,_,0,Nat.zero_le _,rfl,rfl,World.ownsRow_made _ #[] 0 (Nat.le_refl _) (by simp[maxLen]) rfl,by simp,by exact .alloc (.refl _) _⟩
 case round=>
  obtain⟨k,q,c,hk,rfl,rfl,hown,hlt',hE⟩:=hrel
  have HO:=xQ hown
  have HL:=xQ hlt'
  have hsz:=hE.sz
  clear hown hlt'
  by_cases hlt:k<n
  ·obtain⟨b,off,y,rfl,hx,hb,hcell⟩:=(HS.out.ext hE).int_at hlt
   have HX:=xQ hx
   clear hx
   by_cases hy:y<x
   ·have hfin:Hid (∀z∈xs.take (k+1),z<x):=by
     show∀z∈xs.take (k+1),z<x
     rw[bH HX.out]
     intro z hz
     rcases List.mem_append.1 hz with h|h
     ·exact HL.out z h
     ·simp at h;omega
    go_wp2_with (at_builtin;refine cS eT rfl _ _ rfl w.heap.size _ _ _ rfl (HO.out.alloc _) _ _ y _ rfl (by simp) (by omega) (by simp;omega) ?_;intro p' cap' w1 hown1 hg1;have HO1:=xQ hown1;have hE1:Ext w w1:=Ext.own (hE.alloc _) (HO.out.alloc _) hg1 (Nat.le_refl _);clear hown1 hg1)
    go_roundw
    case rel=>exact⟨k+1,p',cap',by omega,by go_num,rfl,by rw[bH HX.out];exact HO1.out,hfin.out,hE1⟩
    case measure=>simp[intOf];omega
   ·have hfin:Hid (iR x xs=xs.take k++x::xs.drop k):=aAg xs k x HL.out (fun z hz=>by rw[HX.out]at hz;injection hz with hz;subst hz;exact hy)
    have i1:(0:Int)≤(k:Int):=by omega
    have i2:(k:Int)≤(n:Int):=by omega
    have hck: ¬cap=k:=by omega
    go_wp2
    go_region_law ((first
     |(refine fZ _ eT (by rfl) _ _ (by rfl) w.heap.size _ k (ivs (xs.take k)) (by rfl) (by first|exact HO.out|exact HO.out.alloc _|exact(HO.out.alloc _).drew|exact(HO.out.drew).alloc _|exact HO.out.drew) _ 1 1 [iv x] (by rfl) (by first|exact Sl.new wr #[iv x] _ 1 rfl (by decide)|exact(Sl.new wr #[iv x] _ 1 rfl (by decide)).ext (Ext.drew (Ext.refl _))|exact Sl.new wr.drew #[iv x] _ 1 rfl (by decide)) (lH [x]) (by omega) (by simp;omega) ?_
       intro p1 c1 w1 hown1 hg1
       have hE1:Ext w w1:=Ext.own (by exact .drew (.alloc hE _)) (by first|exact HO.out|exact HO.out.alloc _|exact(HO.out.alloc _).drew|exact(HO.out.drew).alloc _|exact HO.out.drew) hg1 (Nat.le_refl _)
       have HO1:=xQ hown1
       have HS1:=xQ (HS.out.ext hE1)
       have hz1:=hE1.sz
       clear hown1 hg1)
     |(refine fZ _ eT (by rfl) _ _ (by rfl) w.heap.size _ (k+1) (ivs (xs.take k)++ [iv x]) (by rfl) HO1.out _ (n-k) (cap-k) (ivs (xs.drop k)) (by rfl) (aF9 HS1.out (by omega)) (lH _) (by omega) (by omega) ?_
       intro p2 c2 w2 hown2 hg2
       have hE2:Ext w w2:=Ext.own hE1 HO1.out hg2 (Nat.le_refl _)
       have HO2:=xQ hown2
       clear hown2 hg2)))
    all_goals go_wp2
    all_goals go_ret
    all_goals exact dB (by rw[hfin.out];simp;rw[hl.out];omega) (by rw[hfin.out];simpa using HO2.out) hE2
  ·obtain rfl:k=n:=by omega
   have hfin:Hid (iR x xs=xs++ [x]):=by
    have:=aAg xs k x HL.out (fun z hz=>by rw[List.getElem?_eq_none (by rw[hl.out];exact Nat.le_refl _)]at hz;cases hz)
    show _=_
    rw[this,List.take_of_length_le (by rw[hl.out];exact Nat.le_refl _),List.drop_eq_nil_of_le (by rw[hl.out];exact Nat.le_refl _)]
   have i1:(0:Int)≤(k:Int):=by omega
   go_wp2
   go_region_law ((first
    |(refine fZ _ eT (by rfl) _ _ (by rfl) w.heap.size _ k (ivs (xs.take k)) (by rfl) (by first|exact HO.out|exact HO.out.alloc _|exact(HO.out.alloc _).drew|exact(HO.out.drew).alloc _|exact HO.out.drew) _ 1 1 [iv x] (by rfl) (by first|exact Sl.new wr #[iv x] _ 1 rfl (by decide)|exact(Sl.new wr #[iv x] _ 1 rfl (by decide)).ext (Ext.drew (Ext.refl _))|exact Sl.new wr.drew #[iv x] _ 1 rfl (by decide)) (lH [x]) (by omega) (by simp;omega) ?_
      intro p1 c1 w1 hown1 hg1
      have hE1:Ext w w1:=Ext.own (by exact .drew (.alloc hE _)) (by first|exact HO.out|exact HO.out.alloc _|exact(HO.out.alloc _).drew|exact(HO.out.drew).alloc _|exact HO.out.drew) hg1 (Nat.le_refl _)
      have HO1:=xQ hown1
      have HS1:=xQ (HS.out.ext hE1)
      have hz1:=hE1.sz
      clear hown1 hg1)
    |(refine fZ _ eT (by rfl) _ _ (by rfl) w.heap.size _ (k+1) (ivs (xs.take k)++ [iv x]) (by rfl) HO1.out _ 0 _ (ivs []) (by rfl) (aF8 _ _ (by unfold maxLen;omega)) (lH _) (by omega) (by omega) ?_
      intro p2 c2 w2 hown2 hg2
      have hE2:Ext w w2:=Ext.own hE1 HO1.out hg2 (Nat.le_refl _)
      have HO2:=xQ hown2
      clear hown2 hg2)))
   all_goals go_wp2
   all_goals go_ret
   all_goals exact dB (by rw[hfin.out];simp;rw[hl.out]) (by rw[hfin.out];have:=HO2.out;rw[List.take_of_length_le (by rw[hl.out];exact Nat.le_refl _)]at this;simpa using this) hE2
end Go.Proofs.YtahglfakiobbcaaGreatDoor
