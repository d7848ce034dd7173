/-
  Texts of this proof, packed (@packed).
-/
import Derived.Deep.AppendLies
import Derived.Deep.RegionLaw
import Derived.Maps.AppendAt
import Derived.RegionTactic
import Derived.Test.YtpelpnfhbepokaaGreatDoorU1
import Derived.Test.YtpelpnfhbepokaaGreatDoorU2
namespace Go.Proofs.YtpelpnfhbepokaaGreatDoor
open Go.RowKit
set_option linter.unusedVariables false
set_option maxHeartbeats 8000000
set_option maxRecDepth 100000
theorem aEs (f s p c i pd a now:Int)(w:World)(h:bJ f s p c=true)(h2:cZ i pd a=true)(h3:a≤now)(h4:now≤9999):Calls Tryz.prog 57 #[aR f s p c,bN i pd a,now] w fun e w'=>e= .returned (.int .i64 (bX f s p c i pd a now))∧Ext w w':=by
 obtain⟨b1,b2,b3,b4,b5,b6⟩:=fT h2;have HT:Hid (∀w,Calls Tryz.prog 51 #[aR f s p c] w fun e w'=>e= .returned (.bool true)∧Ext w w'):=fun w=>by rw[←h];exact aA7 f s p c w
 have HS:Hid (∀w,Calls Tryz.prog 54 #[bN i pd a] w fun e w'=>e= .returned (.bool true)∧Ext w w'):=fun w=>by rw[←h2];exact aJw i pd a w
 obtain⟨q,hq⟩: ∃q,q=mE f s p c (now-i):=⟨_,rfl⟩
 have o:0≤q∧q≤693:=by rw[hq];exact qW h (by omega) (by omega)
 have HF:Hid (∀w,Calls Tryz.prog 17 #[aR f s p c,(now-i:Int)] w fun e w'=>e= .returned (.int .i64 q)∧Ext w w'):=fun w=>by rw[hq];exact aMu f s p c _ w h (by omega) (by omega)
 have j:bX f s p c i pd a now=max (q-pd) 0:=by rw[hq];simp[bX,h,h2,h3,h4]
 rw[j];clear hq j h h2;go_enter Tryz.func57,Tryz.ntmps57;go_wp2_with fail;refine(HT _).mono ?_;rintro e w1 ⟨rfl,b⟩;have k:w.heap.size<w1.heap.size:=Nat.lt_of_lt_of_le (by simp;omega) b.sz;have l:w.heap.size+1<w1.heap.size:=Nat.lt_of_lt_of_le (by simp) b.sz;have e0:w1.cell? ⟨w.heap.size,0,none⟩=some (.int .i64 f):=by rw[b.cells.1 _ _ (by simp;omega)];simp
 have e1:w1.cell? ⟨w.heap.size,1,none⟩=some (.int .i64 s):=by rw[b.cells.1 _ _ (by simp;omega)];simp
 have e2:w1.cell? ⟨w.heap.size,2,none⟩=some (.int .i64 p):=by rw[b.cells.1 _ _ (by simp;omega)];simp
 have e3:w1.cell? ⟨w.heap.size,3,none⟩=some (.int .i64 c):=by rw[b.cells.1 _ _ (by simp;omega)];simp
 have g0:w1.cell? ⟨w.heap.size+1,0,none⟩=some (.int .i64 i):=by rw[b.cells.1 _ _ (by simp)];simp
 have g1:w1.cell? ⟨w.heap.size+1,1,none⟩=some (.int .i64 pd):=by rw[b.cells.1 _ _ (by simp)];simp
 have g2:w1.cell? ⟨w.heap.size+1,2,none⟩=some (.int .i64 a):=by rw[b.cells.1 _ _ (by simp)];simp
 go_wp2_with (first|(go_at_call 54;refine(HS _).mono ?_;rintro e w2 ⟨rfl,g⟩;have m:=g.cells.1;have r:w.heap.size<w2.heap.size:=Nat.lt_of_lt_of_le k g.sz;have t:w.heap.size+1<w2.heap.size:=Nat.lt_of_lt_of_le l g.sz)|go_in);have k1:IntKind.i64.wrap (now-i)=now-i:=IntWalk.i64_in _ (by omega);have k2:IntKind.i64.wrap (q-pd)=q-pd:=IntWalk.i64_in _ (by omega)
 go_region_held3 (fun w'=>w'.cell? ⟨w.heap.size,0,none⟩=some (.int .i64 f)∧w'.cell? ⟨w.heap.size,1,none⟩=some (.int .i64 s)∧w'.cell? ⟨w.heap.size,2,none⟩=some (.int .i64 p)∧w'.cell? ⟨w.heap.size,3,none⟩=some (.int .i64 c)∧w'.cell? ⟨w.heap.size+1,0,none⟩=some (.int .i64 i)∧w'.cell? ⟨w.heap.size+1,1,none⟩=some (.int .i64 pd)) (go_keep)
  ((go_at_call 17;refine(HF _).mono ?_;rintro e w3 ⟨rfl,d⟩;(try replace d:=d.of_drew);have n:=d.cells.1;have u:w.heap.size<w3.heap.size:=Nat.lt_of_lt_of_le (by assumption) d.sz;have v:w.heap.size+1<w3.heap.size:=Nat.lt_of_lt_of_le (by assumption) d.sz))
 all_goals clear k1 k2
 all_goals go_wp2
 all_goals go_ret
 all_goals exact⟨dG (by omega),by exact .trans (.trans (.trans (.alloc (.alloc (.refl _) _) _) b) g) d⟩
theorem aDk (f s p c i pd a now:Int)(w:World)(h:bJ f s p c=true)(h2:cZ i pd a=true)(h3:a≤now)(h4:now≤9999):Calls Tryz.prog 152 #[aR f s p c,bN i pd a,now] w fun e w'=>e= .returned (.int .i64 (bX f s p c i pd a now))∧Ext w w':=by
 obtain⟨b1,b2,b3,b4,b5,b6⟩:=fT h2;have HT:Hid (∀w,Calls Tryz.prog 42 #[aR f s p c] w fun e w'=>e= .returned (.bool true)∧Ext w w'):=fun w=>by rw[←h];exact zC f s p c w
 have HS:Hid (∀w,Calls Tryz.prog 44 #[bN i pd a] w fun e w'=>e= .returned (.bool true)∧Ext w w'):=fun w=>by rw[←h2];exact aIm i pd a w
 obtain⟨q,hq⟩: ∃q,q=mE f s p c (now-i):=⟨_,rfl⟩
 have o:0≤q∧q≤693:=by rw[hq];exact qW h (by omega) (by omega)
 have HF:Hid (∀w,Calls Tryz.prog 192 #[aR f s p c,(now-i:Int)] w fun e w'=>e= .returned (.int .i64 q)∧Ext w w'):=fun w=>by rw[hq];exact aMc f s p c _ w h (by omega) (by omega)
 have j:bX f s p c i pd a now=max (q-pd) 0:=by rw[hq];simp[bX,h,h2,h3,h4]
 rw[j];clear hq j h h2;go_enter Tryz.func152,Tryz.ntmps152;go_wp2_with fail;refine(HT _).mono ?_;rintro e w1 ⟨rfl,b⟩;have k:w.heap.size<w1.heap.size:=Nat.lt_of_lt_of_le (by simp;omega) b.sz;have l:w.heap.size+1<w1.heap.size:=Nat.lt_of_lt_of_le (by simp) b.sz;have e0:w1.cell? ⟨w.heap.size,0,none⟩=some (.int .i64 f):=by rw[b.cells.1 _ _ (by simp;omega)];simp
 have e1:w1.cell? ⟨w.heap.size,1,none⟩=some (.int .i64 s):=by rw[b.cells.1 _ _ (by simp;omega)];simp
 have e2:w1.cell? ⟨w.heap.size,2,none⟩=some (.int .i64 p):=by rw[b.cells.1 _ _ (by simp;omega)];simp
 have e3:w1.cell? ⟨w.heap.size,3,none⟩=some (.int .i64 c):=by rw[b.cells.1 _ _ (by simp;omega)];simp
 have g0:w1.cell? ⟨w.heap.size+1,0,none⟩=some (.int .i64 i):=by rw[b.cells.1 _ _ (by simp)];simp
 have g1:w1.cell? ⟨w.heap.size+1,1,none⟩=some (.int .i64 pd):=by rw[b.cells.1 _ _ (by simp)];simp
 have g2:w1.cell? ⟨w.heap.size+1,2,none⟩=some (.int .i64 a):=by rw[b.cells.1 _ _ (by simp)];simp
 go_wp2_with (first|(go_at_call 44;refine(HS _).mono ?_;rintro e w2 ⟨rfl,g⟩;have m:=g.cells.1;have r:w.heap.size<w2.heap.size:=Nat.lt_of_lt_of_le k g.sz;have t:w.heap.size+1<w2.heap.size:=Nat.lt_of_lt_of_le l g.sz)|go_in);have k1:IntKind.i64.wrap (now-i)=now-i:=IntWalk.i64_in _ (by omega);have k2:IntKind.i64.wrap (q-pd)=q-pd:=IntWalk.i64_in _ (by omega)
 go_region_held3 (fun w'=>w'.cell? ⟨w.heap.size,0,none⟩=some (.int .i64 f)∧w'.cell? ⟨w.heap.size,1,none⟩=some (.int .i64 s)∧w'.cell? ⟨w.heap.size,2,none⟩=some (.int .i64 p)∧w'.cell? ⟨w.heap.size,3,none⟩=some (.int .i64 c)∧w'.cell? ⟨w.heap.size+1,0,none⟩=some (.int .i64 i)∧w'.cell? ⟨w.heap.size+1,1,none⟩=some (.int .i64 pd)) (go_keep)
  ((go_at_call 192;refine(HF _).mono ?_;rintro e w3 ⟨rfl,d⟩;(try replace d:=d.of_drew);have n:=d.cells.1;have u:w.heap.size<w3.heap.size:=Nat.lt_of_lt_of_le (by assumption) d.sz;have v:w.heap.size+1<w3.heap.size:=Nat.lt_of_lt_of_le (by assumption) d.sz))
 all_goals clear k1 k2
 all_goals go_wp2
 all_goals go_ret
 all_goals exact⟨dG (by omega),by exact .trans (.trans (.trans (.alloc (.alloc (.refl _) _) _) b) g) d⟩
theorem aK3 (f s p c i pd a now d1 d2:Int)(w:World)(h0:0≤d1)(h2:0≤d2)(h3:a≤now)(h4:now≤9999)(h5:0≤a)(t1:(d1==0)=true)
  (HA:Hid (∀w,Calls Tryz.prog 57 #[aR f s p c,bN i pd a,now] w fun e w'=>e= .returned (.int .i64 d1)∧Ext w w'))
  (HB:Hid (∀w,Calls Tryz.prog 57 #[aR f s p c,bN i pd a,a] w fun e w'=>e= .returned (.int .i64 d2)∧Ext w w')):
  Calls Tryz.prog 147 #[aR f s p c,bN i pd a,now] w fun e w'=>e= .returned (.bool true)∧Ext w w':=by
 go_enter Tryz.func147,Tryz.ntmps147;go_wp2_with fail;refine(HA _).mono ?_;rintro e w1 ⟨rfl,b⟩;have g:w.heap.size<w1.heap.size:=Nat.lt_of_lt_of_le (by simp;omega) b.sz;have h:w.heap.size+1<w1.heap.size:=Nat.lt_of_lt_of_le (by simp) b.sz;have d:=b.cells.1;go_wp2;go_ret;exact⟨aO (by first|rfl|(simp;omega)),by exact .trans (.alloc (.alloc (.refl _) _) _) b⟩
theorem aK2 (f s p c i pd a now d1 d2:Int)(w:World)(h0:0≤d1)(h2:0≤d2)(h3:a≤now)(h4:now≤9999)(h5:0≤a)(t1:(d1==0)=false)(t2:15<now-a)(t3:(d2==0)=true)
  (HA:Hid (∀w,Calls Tryz.prog 57 #[aR f s p c,bN i pd a,now] w fun e w'=>e= .returned (.int .i64 d1)∧Ext w w'))
  (HB:Hid (∀w,Calls Tryz.prog 57 #[aR f s p c,bN i pd a,a] w fun e w'=>e= .returned (.int .i64 d2)∧Ext w w')):
  Calls Tryz.prog 147 #[aR f s p c,bN i pd a,now] w fun e w'=>e= .returned (.bool false)∧Ext w w':=by
 go_enter Tryz.func147,Tryz.ntmps147;go_wp2_with fail;refine(HA _).mono ?_;rintro e w1 ⟨rfl,b⟩;have g:w.heap.size<w1.heap.size:=Nat.lt_of_lt_of_le (by simp;omega) b.sz;have h:w.heap.size+1<w1.heap.size:=Nat.lt_of_lt_of_le (by simp) b.sz;have d:=b.cells.1;go_wp2;go_ret;exact⟨aO (by first|rfl|(simp;omega)),by exact .trans (.alloc (.alloc (.refl _) _) _) b⟩
theorem aK1 (f s p c i pd a now d1 d2:Int)(w:World)(h0:0≤d1)(h2:0≤d2)(h3:a≤now)(h4:now≤9999)(h5:0≤a)(t1:(d1==0)=false)(t2:now-a≤15)(t3:(d2==0)=true)
  (HA:Hid (∀w,Calls Tryz.prog 57 #[aR f s p c,bN i pd a,now] w fun e w'=>e= .returned (.int .i64 d1)∧Ext w w'))
  (HB:Hid (∀w,Calls Tryz.prog 57 #[aR f s p c,bN i pd a,a] w fun e w'=>e= .returned (.int .i64 d2)∧Ext w w')):
  Calls Tryz.prog 147 #[aR f s p c,bN i pd a,now] w fun e w'=>e= .returned (.bool true)∧Ext w w':=by
 go_enter Tryz.func147,Tryz.ntmps147;go_wp2_with fail;refine(HA _).mono ?_;rintro e w1 ⟨rfl,b⟩;have g:w.heap.size<w1.heap.size:=Nat.lt_of_lt_of_le (by simp;omega) b.sz;have h:w.heap.size+1<w1.heap.size:=Nat.lt_of_lt_of_le (by simp) b.sz;have j:=b.cells.1;go_wp2_with fail;refine(HB _).mono ?_;rintro e w2 ⟨rfl,d⟩;have l:=Nat.lt_of_lt_of_le g d.sz;have m:=Nat.lt_of_lt_of_le h d.sz;have k:=d.cells.1;go_wp2;go_ret;exact⟨aO (by first|rfl|(simp;omega)),by exact .trans (.trans (.alloc (.alloc (.refl _) _) _) b) d⟩
theorem aK0 (f s p c i pd a now d1 d2:Int)(w:World)(h0:0≤d1)(h2:0≤d2)(h3:a≤now)(h4:now≤9999)(h5:0≤a)(t1:(d1==0)=false)(t2:15<now-a)(t3:(d2==0)=false)
  (HA:Hid (∀w,Calls Tryz.prog 57 #[aR f s p c,bN i pd a,now] w fun e w'=>e= .returned (.int .i64 d1)∧Ext w w'))
  (HB:Hid (∀w,Calls Tryz.prog 57 #[aR f s p c,bN i pd a,a] w fun e w'=>e= .returned (.int .i64 d2)∧Ext w w')):
  Calls Tryz.prog 147 #[aR f s p c,bN i pd a,now] w fun e w'=>e= .returned (.bool false)∧Ext w w':=by
 go_enter Tryz.func147,Tryz.ntmps147;go_wp2_with fail;refine(HA _).mono ?_;rintro e w1 ⟨rfl,b⟩;have g:w.heap.size<w1.heap.size:=Nat.lt_of_lt_of_le (by simp;omega) b.sz;have h:w.heap.size+1<w1.heap.size:=Nat.lt_of_lt_of_le (by simp) b.sz;have d:=b.cells.1;go_wp2;go_ret;exact⟨aO (by first|rfl|(simp;omega)),by exact .trans (.alloc (.alloc (.refl _) _) _) b⟩
theorem aJz (f s p c i pd a now d1 d2:Int)(w:World)(h0:0≤d1)(h2:0≤d2)(h3:a≤now)(h4:now≤9999)(h5:0≤a)(t1:(d1==0)=false)(t2:now-a≤15)(t3:(d2==0)=false)
  (HA:Hid (∀w,Calls Tryz.prog 57 #[aR f s p c,bN i pd a,now] w fun e w'=>e= .returned (.int .i64 d1)∧Ext w w'))
  (HB:Hid (∀w,Calls Tryz.prog 57 #[aR f s p c,bN i pd a,a] w fun e w'=>e= .returned (.int .i64 d2)∧Ext w w')):
  Calls Tryz.prog 147 #[aR f s p c,bN i pd a,now] w fun e w'=>e= .returned (.bool false)∧Ext w w':=by
 go_enter Tryz.func147,Tryz.ntmps147;go_wp2_with fail;refine(HA _).mono ?_;rintro e w1 ⟨rfl,b⟩;have g:w.heap.size<w1.heap.size:=Nat.lt_of_lt_of_le (by simp;omega) b.sz;have h:w.heap.size+1<w1.heap.size:=Nat.lt_of_lt_of_le (by simp) b.sz;have j:=b.cells.1;go_wp2_with fail;refine(HB _).mono ?_;rintro e w2 ⟨rfl,d⟩;have l:=Nat.lt_of_lt_of_le g d.sz;have m:=Nat.lt_of_lt_of_le h d.sz;have k:=d.cells.1;go_wp2;go_ret;exact⟨aO (by first|rfl|(simp;omega)),by exact .trans (.trans (.alloc (.alloc (.refl _) _) _) b) d⟩
theorem aMp (f s p c i pd a now:Int)(w:World)(h:bJ f s p c=true)(h2:cZ i pd a=true)(h3:a≤now)(h4:now≤9999):Calls Tryz.prog 147 #[aR f s p c,bN i pd a,now] w fun e w'=>e= .returned (.bool (kX f s p c i pd a now))∧Ext w w':=by
 obtain⟨b1,b2,b3,b4,b5,b6⟩:=fT h2;have e1:0≤bX f s p c i pd a now:=by unfold bX;rw[if_pos (by simp[h,h2,h3,h4])];omega
 have e2:0≤bX f s p c i pd a a:=by unfold bX;rw[if_pos (by simp[h,h2];omega)];omega
 have hr:kX f s p c i pd a now=(decide (bX f s p c i pd a now=0) || (decide (now-a≤15)&&decide (bX f s p c i pd a a=0))):=by simp[kX,e1]
 have hA:=fun w=>aEs f s p c i pd a now w h h2 h3 h4
 have hB:=fun w=>aEs f s p c i pd a a w h h2 (by omega) b6
 rw[hr];generalize bX f s p c i pd a now=d1 at*;generalize bX f s p c i pd a a=d2 at*;by_cases t1:d1=0
 ·rw[show(decide (d1=0) || (decide (now-a≤15)&&decide (d2=0)))=true by simp[t1]];exact aK3 f s p c i pd a now d1 d2 w e1 e2 h3 h4 (by omega) (by simp[t1]) hA hB
 by_cases t2:now-a≤15
 ·by_cases t3:d2=0
  ·rw[show(decide (d1=0) || (decide (now-a≤15)&&decide (d2=0)))=true by simp[t2,t3]];exact aK1 f s p c i pd a now d1 d2 w e1 e2 h3 h4 (by omega) (by simp[t1]) t2 (by simp[t3]) hA hB
  rw[show(decide (d1=0) || (decide (now-a≤15)&&decide (d2=0)))=false by simp[t1,t3]];exact aJz f s p c i pd a now d1 d2 w e1 e2 h3 h4 (by omega) (by simp[t1]) t2 (by simp[t3]) hA hB
 by_cases t3:d2=0
 ·rw[show(decide (d1=0) || (decide (now-a≤15)&&decide (d2=0)))=false by simp[t1,t2]];exact aK2 f s p c i pd a now d1 d2 w e1 e2 h3 h4 (by omega) (by simp[t1]) (by omega) (by simp[t3]) hA hB
 rw[show(decide (d1=0) || (decide (now-a≤15)&&decide (d2=0)))=false by simp[t1,t2]];exact aK0 f s p c i pd a now d1 d2 w e1 e2 h3 h4 (by omega) (by simp[t1]) (by omega) (by simp[t3]) hA hB
theorem aIv (f s p c i pd a now d1 d2:Int)(w:World)(h0:0≤d1)(h2:0≤d2)(h3:a≤now)(h4:now≤9999)(h5:0≤a)(t1:(d1==0)=true)
  (HA:Hid (∀w,Calls Tryz.prog 152 #[aR f s p c,bN i pd a,now] w fun e w'=>e= .returned (.int .i64 d1)∧Ext w w'))
  (HB:Hid (∀w,Calls Tryz.prog 152 #[aR f s p c,bN i pd a,a] w fun e w'=>e= .returned (.int .i64 d2)∧Ext w w')):
  Calls Tryz.prog 138 #[aR f s p c,bN i pd a,now] w fun e w'=>e= .returned (.bool true)∧Ext w w':=by
 go_enter Tryz.func138,Tryz.ntmps138;go_wp2_with fail;refine(HA _).mono ?_;rintro e w1 ⟨rfl,b⟩;have g:w.heap.size<w1.heap.size:=Nat.lt_of_lt_of_le (by simp;omega) b.sz;have h:w.heap.size+1<w1.heap.size:=Nat.lt_of_lt_of_le (by simp) b.sz;have j:=b.cells.1;go_wp2_with fail;refine(HA _).mono ?_;rintro e w2 ⟨rfl,d⟩;have l:=Nat.lt_of_lt_of_le g d.sz;have m:=Nat.lt_of_lt_of_le h d.sz;have k:=d.cells.1;go_wp2;go_ret;exact⟨aO (by first|rfl|(simp;omega)),by exact .trans (.trans (.alloc (.alloc (.refl _) _) _) b) d⟩
theorem aIu (f s p c i pd a now d1 d2:Int)(w:World)(h0:0≤d1)(h2:0≤d2)(h3:a≤now)(h4:now≤9999)(h5:0≤a)(t1:(d1==0)=false)(t2:15<now-a)(t3:(d2==0)=true)
  (HA:Hid (∀w,Calls Tryz.prog 152 #[aR f s p c,bN i pd a,now] w fun e w'=>e= .returned (.int .i64 d1)∧Ext w w'))
  (HB:Hid (∀w,Calls Tryz.prog 152 #[aR f s p c,bN i pd a,a] w fun e w'=>e= .returned (.int .i64 d2)∧Ext w w')):
  Calls Tryz.prog 138 #[aR f s p c,bN i pd a,now] w fun e w'=>e= .returned (.bool false)∧Ext w w':=by
 go_enter Tryz.func138,Tryz.ntmps138;go_wp2_with fail;refine(HA _).mono ?_;rintro e w1 ⟨rfl,b⟩;have h:w.heap.size<w1.heap.size:=Nat.lt_of_lt_of_le (by simp;omega) b.sz;have j:w.heap.size+1<w1.heap.size:=Nat.lt_of_lt_of_le (by simp) b.sz;have m:=b.cells.1;go_wp2_with fail;refine(HA _).mono ?_;rintro e w2 ⟨rfl,d⟩;have k:=Nat.lt_of_lt_of_le h d.sz;have l:=Nat.lt_of_lt_of_le j d.sz;have n:=d.cells.1;go_wp2_with fail;refine(HB _).mono ?_;rintro e w3 ⟨rfl,g⟩;have q:=Nat.lt_of_lt_of_le k g.sz;have r:=Nat.lt_of_lt_of_le l g.sz;have o:=g.cells.1;go_wp2;go_ret;exact⟨aO (by first|rfl|(simp;omega)),by exact .trans (.trans (.trans (.alloc (.alloc (.refl _) _) _) b) d) g⟩
theorem aIt (f s p c i pd a now d1 d2:Int)(w:World)(h0:0≤d1)(h2:0≤d2)(h3:a≤now)(h4:now≤9999)(h5:0≤a)(t1:(d1==0)=false)(t2:now-a≤15)(t3:(d2==0)=true)
  (HA:Hid (∀w,Calls Tryz.prog 152 #[aR f s p c,bN i pd a,now] w fun e w'=>e= .returned (.int .i64 d1)∧Ext w w'))
  (HB:Hid (∀w,Calls Tryz.prog 152 #[aR f s p c,bN i pd a,a] w fun e w'=>e= .returned (.int .i64 d2)∧Ext w w')):
  Calls Tryz.prog 138 #[aR f s p c,bN i pd a,now] w fun e w'=>e= .returned (.bool true)∧Ext w w':=by
 go_enter Tryz.func138,Tryz.ntmps138;go_wp2_with fail;refine(HA _).mono ?_;rintro e w1 ⟨rfl,b⟩;have h:w.heap.size<w1.heap.size:=Nat.lt_of_lt_of_le (by simp;omega) b.sz;have j:w.heap.size+1<w1.heap.size:=Nat.lt_of_lt_of_le (by simp) b.sz;have m:=b.cells.1;go_wp2_with fail;refine(HA _).mono ?_;rintro e w2 ⟨rfl,d⟩;have k:=Nat.lt_of_lt_of_le h d.sz;have l:=Nat.lt_of_lt_of_le j d.sz;have n:=d.cells.1;go_wp2_with fail;refine(HB _).mono ?_;rintro e w3 ⟨rfl,g⟩;have q:=Nat.lt_of_lt_of_le k g.sz;have r:=Nat.lt_of_lt_of_le l g.sz;have o:=g.cells.1;go_wp2;go_ret;exact⟨aO (by first|rfl|(simp;omega)),by exact .trans (.trans (.trans (.alloc (.alloc (.refl _) _) _) b) d) g⟩
theorem aIs (f s p c i pd a now d1 d2:Int)(w:World)(h0:0≤d1)(h2:0≤d2)(h3:a≤now)(h4:now≤9999)(h5:0≤a)(t1:(d1==0)=false)(t2:15<now-a)(t3:(d2==0)=false)
  (HA:Hid (∀w,Calls Tryz.prog 152 #[aR f s p c,bN i pd a,now] w fun e w'=>e= .returned (.int .i64 d1)∧Ext w w'))
  (HB:Hid (∀w,Calls Tryz.prog 152 #[aR f s p c,bN i pd a,a] w fun e w'=>e= .returned (.int .i64 d2)∧Ext w w')):
  Calls Tryz.prog 138 #[aR f s p c,bN i pd a,now] w fun e w'=>e= .returned (.bool false)∧Ext w w':=by
 go_enter Tryz.func138,Tryz.ntmps138;go_wp2_with fail;refine(HA _).mono ?_;rintro e w1 ⟨rfl,b⟩;have h:w.heap.size<w1.heap.size:=Nat.lt_of_lt_of_le (by simp;omega) b.sz;have j:w.heap.size+1<w1.heap.size:=Nat.lt_of_lt_of_le (by simp) b.sz;have m:=b.cells.1;go_wp2_with fail;refine(HA _).mono ?_;rintro e w2 ⟨rfl,d⟩;have k:=Nat.lt_of_lt_of_le h d.sz;have l:=Nat.lt_of_lt_of_le j d.sz;have n:=d.cells.1;go_wp2_with fail;refine(HB _).mono ?_;rintro e w3 ⟨rfl,g⟩;have q:=Nat.lt_of_lt_of_le k g.sz;have r:=Nat.lt_of_lt_of_le l g.sz;have o:=g.cells.1;go_wp2;go_ret;exact⟨aO (by first|rfl|(simp;omega)),by exact .trans (.trans (.trans (.alloc (.alloc (.refl _) _) _) b) d) g⟩
theorem aIr (f s p c i pd a now d1 d2:Int)(w:World)(h0:0≤d1)(h2:0≤d2)(h3:a≤now)(h4:now≤9999)(h5:0≤a)(t1:(d1==0)=false)(t2:now-a≤15)(t3:(d2==0)=false)
  (HA:Hid (∀w,Calls Tryz.prog 152 #[aR f s p c,bN i pd a,now] w fun e w'=>e= .returned (.int .i64 d1)∧Ext w w'))
  (HB:Hid (∀w,Calls Tryz.prog 152 #[aR f s p c,bN i pd a,a] w fun e w'=>e= .returned (.int .i64 d2)∧Ext w w')):
  Calls Tryz.prog 138 #[aR f s p c,bN i pd a,now] w fun e w'=>e= .returned (.bool false)∧Ext w w':=by
 go_enter Tryz.func138,Tryz.ntmps138;go_wp2_with fail;refine(HA _).mono ?_;rintro e w1 ⟨rfl,b⟩;have h:w.heap.size<w1.heap.size:=Nat.lt_of_lt_of_le (by simp;omega) b.sz;have j:w.heap.size+1<w1.heap.size:=Nat.lt_of_lt_of_le (by simp) b.sz;have m:=b.cells.1;go_wp2_with fail;refine(HA _).mono ?_;rintro e w2 ⟨rfl,d⟩;have k:=Nat.lt_of_lt_of_le h d.sz;have l:=Nat.lt_of_lt_of_le j d.sz;have n:=d.cells.1;go_wp2_with fail;refine(HB _).mono ?_;rintro e w3 ⟨rfl,g⟩;have q:=Nat.lt_of_lt_of_le k g.sz;have r:=Nat.lt_of_lt_of_le l g.sz;have o:=g.cells.1;go_wp2;go_ret;exact⟨aO (by first|rfl|(simp;omega)),by exact .trans (.trans (.trans (.alloc (.alloc (.refl _) _) _) b) d) g⟩
theorem aMa (f s p c i pd a now:Int)(w:World)(h:bJ f s p c=true)(h2:cZ i pd a=true)(h3:a≤now)(h4:now≤9999):Calls Tryz.prog 138 #[aR f s p c,bN i pd a,now] w fun e w'=>e= .returned (.bool (kX f s p c i pd a now))∧Ext w w':=by
 obtain⟨b1,b2,b3,b4,b5,b6⟩:=fT h2;have e1:0≤bX f s p c i pd a now:=by unfold bX;rw[if_pos (by simp[h,h2,h3,h4])];omega
 have e2:0≤bX f s p c i pd a a:=by unfold bX;rw[if_pos (by simp[h,h2];omega)];omega
 have hr:kX f s p c i pd a now=(decide (bX f s p c i pd a now=0) || (decide (now-a≤15)&&decide (bX f s p c i pd a a=0))):=by simp[kX,e1]
 have hA:=fun w=>aDk f s p c i pd a now w h h2 h3 h4
 have hB:=fun w=>aDk f s p c i pd a a w h h2 (by omega) b6
 rw[hr];generalize bX f s p c i pd a now=d1 at*;generalize bX f s p c i pd a a=d2 at*;by_cases t1:d1=0
 ·rw[show(decide (d1=0) || (decide (now-a≤15)&&decide (d2=0)))=true by simp[t1]];exact aIv f s p c i pd a now d1 d2 w e1 e2 h3 h4 (by omega) (by simp[t1]) hA hB
 by_cases t2:now-a≤15
 ·by_cases t3:d2=0
  ·rw[show(decide (d1=0) || (decide (now-a≤15)&&decide (d2=0)))=true by simp[t2,t3]];exact aIt f s p c i pd a now d1 d2 w e1 e2 h3 h4 (by omega) (by simp[t1]) t2 (by simp[t3]) hA hB
  rw[show(decide (d1=0) || (decide (now-a≤15)&&decide (d2=0)))=false by simp[t1,t3]];exact aIr f s p c i pd a now d1 d2 w e1 e2 h3 h4 (by omega) (by simp[t1]) t2 (by simp[t3]) hA hB
 by_cases t3:d2=0
 ·rw[show(decide (d1=0) || (decide (now-a≤15)&&decide (d2=0)))=false by simp[t1,t2]];exact aIu f s p c i pd a now d1 d2 w e1 e2 h3 h4 (by omega) (by simp[t1]) (by omega) (by simp[t3]) hA hB
 rw[show(decide (d1=0) || (decide (now-a≤15)&&decide (d2=0)))=false by simp[t1,t2]];exact aIs f s p c i pd a now d1 d2 w e1 e2 h3 h4 (by omega) (by simp[t1]) (by omega) (by simp[t3]) hA hB
end Go.Proofs.YtpelpnfhbepokaaGreatDoor
namespace Go.Proofs.YtpelpnfhbepokaaGreatDoor
open Go.RowKit
set_option linter.unusedVariables false
def kY (x:Int):List Int→List Int
 | []=> [x]
 |y::ys=>if y<x then y::kY x ys else x::y::ys
def eZ (xs:List Int):List Int:=xs.foldl (fun acc x=>kY x acc) []
def dJ (xs:List Int):List Int:=xs.filter (fun x=>decide (0<x))
def gE (xs:List Int):List Int:=eZ (dJ xs)
theorem mC (x:Int): ∀xs,List.Perm (kY x xs) (x::xs):=by
 intro xs;induction xs with
 |nil=>exact List.Perm.refl _
 |cons y ys ih=>
  unfold kY;split
  ·exact(List.Perm.cons y ih).trans (List.Perm.swap x y ys)
  exact List.Perm.refl _
theorem sX (x:Int): ∀xs,xs.Pairwise (·≤ ·)→(kY x xs).Pairwise (·≤ ·):=by
 intro xs;induction xs with
 |nil=>intro _;simp[kY]
 |cons y ys ih=>
  intro h;rw[List.pairwise_cons]at h;unfold kY;split
  ·rename_i hlt;rw[List.pairwise_cons];refine⟨fun z hz=> ?_,ih h.2⟩;rcases List.mem_cons.1 ((mC x ys).mem_iff.1 hz)with rfl|hz
   ·omega
   exact h.1 z hz
  rename_i hge;rw[List.pairwise_cons,List.pairwise_cons];refine⟨fun z hz=> ?_,h⟩;rcases List.mem_cons.1 hz with rfl|hz
  ·omega
  have:=h.1 z hz;omega
theorem uL (xs:List Int)(x:Int):eZ (xs++ [x])=kY x (eZ xs):=by simp[eZ,List.foldl_append]
theorem aBj (xs:List Int):List.Perm (eZ xs) xs∧(eZ xs).Pairwise (·≤ ·):=by
 suffices h: ∀(n:Nat) (xs:List Int),xs.length=n→List.Perm (eZ xs) xs∧(eZ xs).Pairwise (·≤ ·)from h _ xs rfl
 intro n;induction n with
 |zero=>intro xs h;obtain rfl:=List.eq_nil_of_length_eq_zero h;simp[eZ]
 |succ n ih=>
  intro xs h;have a:xs≠ []:=by intro e;rw[e]at h;simp at h
  rw[←List.dropLast_concat_getLast a,uL];obtain⟨h1,h2⟩:=ih xs.dropLast (by simp[h]);refine⟨?_,sX _ _ h2⟩;exact(mC _ _).trans ((List.Perm.cons _ h1).trans (List.perm_append_singleton _ _).symm)
theorem kV (xs:List Int):List.Perm (eZ xs) xs:=(aBj xs).1
theorem kF (xs:List Int):(eZ xs).Pairwise (·≤ ·):=(aBj xs).2
theorem xL (xs:List Int):(eZ xs).length=xs.length:=(kV xs).length_eq
theorem lG (xs:List Int)(x:Int):dJ (xs++ [x])=dJ xs++(if 0<x then [x]else []):=by unfold dJ;rw[List.filter_append];congr 1;by_cases h:0<x<;>simp[h]
theorem rV (xs:List Int):(dJ xs).length≤xs.length:=List.length_filter_le _ _
theorem pX (xs:List Int):(gE xs).length=(dJ xs).length:=xL _
theorem mK {xs ys:List Int}(h:List.Perm ys xs)(hs:ys.Pairwise (·≤ ·)):ys=eZ xs:=
 List.Perm.eq_of_pairwise (fun a b _ _ h1 h2=>Int.le_antisymm h1 h2) hs (kF xs) (h.trans (kV xs).symm)
abbrev aQ:=Int×Int×Int×Int
def aC (v:aQ):List Value:= [.int .i64 v.1,.int .i64 v.2.1,.int .i64 v.2.2.1,.int .i64 v.2.2.2]
structure aW where
 aA:Int
 aB:Int
 cells:List Int
 free:Int
 step:Int
 aE:Int
 aG:Int
 aD:Int
 aF:Int
 vs:List aQ
def fN (aD:Int)(v:aQ):Bool:=cZ v.2.1 v.2.2.1 v.2.2.2&&decide (v.2.2.2≤aD)
def bS (aD:Int):List Int→List aQ→Bool
 | [],[]=>true
 |c::cs,v::vs=>decide (v.1=c)&&fN aD v&&bS aD cs vs
 |_,_=>false
def uV (h:aW):Bool:=decide (0≤h.aD∧h.aD≤9999∧0≤h.aF∧h.aF≤99999)
def bU (h:aW):Bool:=aN h.aA h.aB h.cells&&bJ h.free h.step h.aE h.aG&&uV h&&bS h.aD (gE h.cells) h.vs
theorem sR {aD:Int}{cs:List Int}{vs:List aQ}{k:Nat}{c:Int}{v:aQ}(hc:cs[k]? =some c) (hv:vs[k]? =some v):
  bS aD (cs.drop k) (vs.drop k)=(decide (v.1=c)&&fN aD v&&bS aD (cs.drop (k+1)) (vs.drop (k+1))):=by
 rw[oR hc,oR hv];rfl
theorem pZ {aD:Int}: ∀ {cs:List Int} {vs:List aQ},bS aD cs vs=true→vs.map (·.1)=cs∧ ∀v∈vs,fN aD v=true:=by
 intro cs;induction cs with
 |nil=>intro vs h;cases vs with
  |nil=>simp
  |cons v vs=>simp[bS]at h
 |cons c cs ih=>
  intro vs h;cases vs with
  |nil=>simp[bS]at h
  |cons v vs=>
   simp only[bS,Bool.and_eq_true,decide_eq_true_eq]at h;obtain⟨⟨h1,h2⟩,h3⟩:=h;obtain⟨i1,i2⟩:=ih h3;refine⟨by simp[h1,i1],fun x hx=> ?_⟩;rcases List.mem_cons.1 hx with rfl|hx
   ·exact h2
   exact i2 x hx
theorem sQ {aD:Int}{cs:List Int}{vs:List aQ}(h:cs.length≠vs.length):bS aD cs vs=false:=by
 cases hh:bS aD cs vs with
 |false=>rfl
 |true=>have:=congrArg List.length (pZ hh).1;simp at this;omega
def fA (id:Int)(vs:List aQ):Option aQ:=vs.find? (fun v=>v.1==id)
def eM (h:aW)(id:Int):Option (Int×Int×Int):=if bU h then(fA id h.vs).map (·.2)else none
def aN9 (h:aW)(id:Int):Int:=match eM h id with
 |some s=>bX h.free h.step h.aE h.aG s.1 s.2.1 s.2.2 h.aD
 |none=> -1
def eH (h:aW)(id:Int):Bool:=match eM h id with
 |some s=>kX h.free h.step h.aE h.aG s.1 s.2.1 s.2.2 h.aD
 |none=>false
abbrev TI:TypeId:=3
def dK (aA aB:Int)(xs:List Int)(w:World)(e:Ending)(w':World):Prop:=
 ∃p cap,e= .returned (aH aA aB p xs.length cap)∧w'.ownsRow w.heap.size TI 1 (.slice p xs.length cap) xs.length (ivs xs)∧Ext w w'
theorem aHa (n:Nat):(madeCells (Value.int .i64 0).cells (n*1)).toList=ivs (List.replicate n 0):=by apply List.ext_getElem<;>simp[madeCells,Value.cells,Nat.mod_one]
theorem uP {aA aB:Int}{p:OA}{n cap:Nat}{xs:List Int}{w w':World}(hn:xs.length=n)(ho:w'.ownsRow w.heap.size TI 1 (.slice p n cap) n (ivs xs))(hx:Ext w w'):dK aA aB xs w (.returned (aH aA aB p n cap)) w':=by subst hn;exact⟨p,cap,rfl,ho,hx⟩
section
variable {P:Program} (w:World)
theorem wO {t e ty:TypeId}{sz:Nat}(E:ElT P t e sz)(base:Nat)(v:Value)(n:Nat)(xs:List Value)(d:w.ownsRow base e sz v n xs)(p:OA)(m c:Nat)(news:List Value)(hs:Sl w p m c sz news)
  (h1: ∀u∈news,u.oneCell'=true)(hn:n+m≤1099511627776)(l:base≤w.heap.size):
  ∃p' cap' w',(Builtin.append_ #[t,t] ty #[v,.slice p m c]).run P w= .ok (.slice p' (n+m) cap') w'∧w'.ownsRow base e sz (.slice p' (n+m) cap') (n+m) (xs++news)∧w.grownBy w' v.ownBlock:=by
 obtain⟨i,z,hi,hz,x,s,y⟩:=E.info;cases p with
 |none=>
  have hm:m=0:=by
   rcases Nat.eq_zero_or_pos m with h0|h0
   ·exact h0
   obtain⟨b,aa,h,_⟩:=hs.rd h0;cases h
  subst hm;have a:news= []:=List.eq_nil_of_length_eq_zero (by simpa using hs.len);subst a;obtain⟨q,k,rfl⟩:=nP d;refine⟨q,k,w,?_,by simpa using d,World.grownBy.refl w _⟩;rcases d.2 with⟨h2,h3⟩|⟨g,cap',cur,h2,_,_,hnc,_⟩
  ·injection h2 with e1 e2 e3;subst e1 e2 e3;simp[Builtin.append_,run_underlying E.ht,sizeOf,typeInfo,hi,Builtin.lenOf,Builtin.firstCells]
  injection h2 with e1 e2 e3;subst e1 e3;simp[Builtin.append_,run_underlying E.ht,sizeOf,typeInfo,hi,Builtin.lenOf,Builtin.firstCells,hnc,storeCells]
 |some ad=>
  have f: ∀j u,news[j]? =some u→w.cell? (ad.add j)=some u:=by
   intro j u hu;rcases Nat.eq_zero_or_pos m with h0|h0
   ·subst h0;have a:news= []:=List.eq_nil_of_length_eq_zero (by simpa using hs.len);subst a;simp at hu
   obtain⟨b,aa,h,_,hc⟩:=hs.rd h0;injection h with h;subst h;rw[jZ,hc j (by rw[←hs.len];exact(List.getElem?_eq_some_iff.1 hu).1)];exact hu
  have r:(n+m)*i.bytes≤140737488355328:=by have:(n+m)*i.bytes≤(n+m)*64:=Nat.mul_le_mul_left _ s;omega
  obtain⟨v',w',o,h2,h3,_,_⟩:=run_append_own_at (P:=P) w base t ty e i z sz i.bytes E.ht hi hz x rfl y E.pos v n xs d ad m c news hs.len f h1 (by unfold maxLen;omega) r l;obtain⟨q,k,rfl⟩:=nP h2;exact⟨q,k,w',o,h2,h3⟩
theorem yX {o:Oper}{a:Act}{K:Act→World→Prop}{Q:Exit→Act→World→Prop}{t e:TypeId}{sz:Nat}(E:ElT P t e sz)(s x:Operand)
  (ho:o.op= .call {callee:= .builtin .append,args:=#[s,x],argTypes:=#[t,t]})
  (base:Nat)(v:Value)(n:Nat)(xs:List Value)(hs:a.eval s=v)(d:w.ownsRow base e sz v n xs)
  (p:OA)(m c:Nat)(news:List Value)(hx:a.eval x= .slice p m c)(hr:Sl w p m c sz news)(h1: ∀u∈news,u.oneCell'=true)
  (hn:n+m≤1099511627776)(b:base≤w.heap.size)
  (h: ∀p' cap' w',w'.ownsRow base e sz (.slice p' (n+m) cap') (n+m) (xs++news)→w.grownBy w' v.ownBlock→K (a.put o.dst (.slice p' (n+m) cap')) w'):o.wp P a w K Q:=by
 obtain⟨p',cap',w',f,h2,h3⟩:=wO (ty:=o.type) w E base v n xs d p m c news hr h1 hn b;unfold Oper.wp execOp;simp only[ho,resolve,invoke,builtin,Sem.run_bind,Sem.run_pure,Result.andThen_ok,List.map_toArray,List.map_cons,List.map_nil,hs,hx,f];exact h p' cap' w' h2 h3
theorem iW {f:Array Oper}{o:Oper}{a:Act}{K:Act→World→Prop}{Q:Exit→Act→World→Prop}{E0:Prop}{t e:TypeId}{sz:Nat}(E:ElT P t e sz)(g:o.guard=none)(s x:Operand)
  (ho:o.op= .call {callee:= .builtin .append,args:=#[s,x],argTypes:=#[t,t]})
  (base:Nat)(v:Value)(n:Nat)(xs:List Value)(hs:a.eval s=v)(d:w.ownsRow base e sz v n xs)
  (p:OA)(m c:Nat)(news:List Value)(hx:a.eval x= .slice p m c)(hr:Sl w p m c sz news)(h1: ∀u∈news,u.oneCell'=true)
  (hn:n+m≤1099511627776)(b:base≤w.heap.size)
  (h: ∀p' cap' w',w'.ownsRow base e sz (.slice p' (n+m) cap') (n+m) (xs++news)→w.grownBy w' v.ownBlock→K (a.put o.dst (.slice p' (n+m) cap')) w'):
  if Region.wanted o (yielded f a.tmps)=true then Oper.wp P o a w K Q else E0:=by
 have hw:Region.wanted o (yielded f a.tmps)=true:=by simp[Region.wanted,g]
 rw[if_pos hw];exact yX w E s x ho base v n xs hs d p m c news hx hr h1 hn b h
end
theorem oN (xs:List Int): ∀u∈ivs xs,u.oneCell'=true:=by intro u hu;obtain⟨x,_,rfl⟩:=List.mem_map.1 hu;rfl
end Go.Proofs.YtpelpnfhbepokaaGreatDoor
namespace Go.Proofs.YtpelpnfhbepokaaGreatDoor
open Go.RowKit
set_option linter.unusedVariables false
set_option maxHeartbeats 8000000
set_option maxRecDepth 100000
def bH (xs:List Int)(w:World)(e:Ending)(w':World):Prop:=
 ∃p cap,e= .returned (.slice p xs.length cap)∧w'.ownsRow w.heap.size TI 1 (.slice p xs.length cap) xs.length (ivs xs)∧Ext w w'
theorem dP {p:OA}{n cap:Nat}{xs:List Int}{w w':World}(hn:xs.length=n)(ho:w'.ownsRow w.heap.size TI 1 (.slice p n cap) n (ivs xs))(hx:Ext w w'):bH xs w (.returned (.slice p n cap)) w':=by subst hn;exact⟨p,cap,rfl,ho,hx⟩
theorem aFx: ∀(xs:List Int) (k:Nat) (x:Int),(∀y∈xs.take k,y<x)→(∀y,xs[k]? =some y→ ¬y<x)→kY x xs=xs.take k++x::xs.drop k:=by
 intro xs;induction xs with
 |nil=>intro k x _ _;simp[kY]
 |cons y ys ih=>
  intro k x h1 h2;cases k with
  |zero=>have:=h2 y rfl;simp[kY,this]
  |succ k=>have h3:y<x:=h1 y (by simp);rw[kY,if_pos h3,ih k x (fun z hz=>h1 z (by simp[hz])) (fun z hz=>h2 z (by simpa using hz))];simp
theorem aJs (x:Int)(xs:List Int):(kY x xs).length=xs.length+1:=(mC x xs).length_eq
theorem aLa {w:World}{b a n cap k:Nat}{xs:List Int}(h:Sl w (some ⟨b,a,none⟩) n cap 1 (ivs xs))(hk:k≤n):Sl w (some ⟨b,a+k,none⟩) (n-k) (cap-k) 1 (ivs (xs.drop k)):=by have hl:=h.ilen;have d:=h.le;have f:=h.mx;refine⟨by simp;omega,by omega,by omega,fun h0=> ?_⟩;obtain⟨b',c,e,hb,hc⟩:=h.rd (by omega);injection e with e;injection e with e1 e2;subst e1 e2;refine⟨_,_,rfl,hb,fun j hj=> ?_⟩;rw[Nat.add_assoc,hc (k+j) (by omega)];simp
theorem aL9 (w:World)(p:OA){c:Nat}(hc:c≤maxLen):Sl w p 0 c 1 (ivs []):=⟨by simp,Nat.zero_le _,hc,fun h=>absurd h (by omega)⟩
theorem aA5 (p:OA)(n cap:Nat)(xs:List Int)(x:Int)(w:World)(hn:n≤1000000)(hS:Sl w p n cap 1 (ivs xs)):
  Calls Tryz.prog 90 #[.slice p n cap,x] w (bH (kY x xs) w):=by
 have hl:=xQ hS.ilen;have ad:=hS.le;have ab:=hS.mx;unfold maxLen at ab;have HS:=xQ hS;clear hS;go_enter Tryz.func90,Tryz.ntmps90;go_wp2;go_loopw [5,6] (fun v i wr=> ∃(k:Nat) (q:OA) (c:Nat),k≤n∧i= .int .i64 k∧v= .slice q k c∧wr.ownsRow w.heap.size TI 1 (.slice q k c) k (ivs (xs.take k))∧(∀y∈xs.take k,y<x)∧Ext w wr) (fun _ i _=>n-(intOf i).toNat)
 case atStart=>exact⟨0,_,0,Nat.zero_le _,rfl,rfl,World.ownsRow_made _ #[] 0 (Nat.le_refl _) (by simp[maxLen]) rfl,by simp,by exact .alloc (.refl _) _⟩
 case round=>
  obtain⟨k,q,c,hk,rfl,rfl,o,m,hE⟩:=hrel;have HO:=xQ o;have HL:=xQ m;have ag:=hE.sz;clear o m;by_cases hlt:k<n
  ·obtain⟨b,ah,y,rfl,hx,hb,aa⟩:=(HS.out.ext hE).int_at hlt;have HX:=xQ hx;clear hx;by_cases hy:y<x
   ·have d:Hid (∀z∈xs.take (k+1),z<x):=by
     show∀z∈xs.take (k+1),z<x;rw[bI HX.out];intro z hz;rcases List.mem_append.1 hz with h|h
     ·exact HL z h
     simp at h;omega
    go_wp2_with (at_builtin;refine dI fX rfl _ _ rfl w.heap.size _ _ _ rfl (HO.out.alloc _) _ _ y _ rfl (by simp) (by omega) (by simp;omega) ?_;intro p' u w1 a g;have j:=xQ a;have f:Ext w w1:=Ext.own (hE.alloc _) (HO.out.alloc _) g (Nat.le_refl _);clear a g);go_roundw
    case rel=>exact⟨k+1,p',u,by omega,by go_num,rfl,by rw[bI HX.out];exact j.out,d.out,f⟩
    case measure=>simp[intOf];omega
   have d:Hid (kY x xs=xs.take k++x::xs.drop k):=aFx xs k x HL (fun z hz=>by rw[HX.out]at hz;injection hz with hz;subst hz;exact hy);have i1:(0:Int)≤(k:Int):=by omega
   have i2:(k:Int)≤(n:Int):=by omega
   have af: ¬cap=k:=by omega
   go_wp2
   go_region_law ((first
    |(refine iW _ fX (by rfl) _ _ (by rfl) w.heap.size _ k (ivs (xs.take k)) (by rfl) (by first|exact HO.out|exact HO.out.alloc _|exact(HO.out.alloc _).drew|exact HO.out.drew.alloc _|exact HO.out.drew) _ 1 1 [iv x] (by rfl) (by first|exact Sl.new wr #[iv x] _ 1 rfl (by decide)|exact(Sl.new wr #[iv x] _ 1 rfl (by decide)).ext (Ext.drew (Ext.refl _))|exact Sl.new wr.drew #[iv x] _ 1 rfl (by decide)) (oN [x]) (by omega) (by simp;omega) ?_
      intro p1 c1 w1 a g;have f:Ext w w1:=Ext.own (by exact .drew (.alloc hE _)) (by first|exact HO.out|exact HO.out.alloc _|exact(HO.out.alloc _).drew|exact HO.out.drew.alloc _|exact HO.out.drew) g (Nat.le_refl _);have j:=xQ a;have t:=xQ (HS.out.ext f);have ae:=f.sz
      clear a g)
    |(refine iW _ fX (by rfl) _ _ (by rfl) w.heap.size _ (k+1) (ivs (xs.take k)++ [iv x]) (by rfl) j _ (n-k) (cap-k) (ivs (xs.drop k)) (by rfl) (aLa t (by omega)) (oN _) (by omega) (by omega) ?_
      intro p2 c2 w2 e l;have s:Ext w w2:=Ext.own f j l (Nat.le_refl _);have r:=xQ e
      clear e l)))
   all_goals go_wp2
   all_goals go_ret
   all_goals exact dP (by rw[d.out];simp;rw[hl.out];omega) (by rw[d.out];simpa using r.out) s
  obtain rfl:k=n:=by omega
  have d:Hid (kY x xs=xs++ [x]):=by have:=aFx xs k x HL (fun z hz=>by rw[List.getElem?_eq_none (by rw[hl.out];exact Nat.le_refl _)]at hz;cases hz);show _=_;rw[this,List.take_of_length_le (by rw[hl.out];exact Nat.le_refl _),List.drop_eq_nil_of_le (by rw[hl.out];exact Nat.le_refl _)]
  have i1:(0:Int)≤(k:Int):=by omega
  go_wp2
  go_region_law ((first
   |(refine iW _ fX (by rfl) _ _ (by rfl) w.heap.size _ k (ivs (xs.take k)) (by rfl) (by first|exact HO.out|exact HO.out.alloc _|exact(HO.out.alloc _).drew|exact HO.out.drew.alloc _|exact HO.out.drew) _ 1 1 [iv x] (by rfl) (by first|exact Sl.new wr #[iv x] _ 1 rfl (by decide)|exact(Sl.new wr #[iv x] _ 1 rfl (by decide)).ext (Ext.drew (Ext.refl _))|exact Sl.new wr.drew #[iv x] _ 1 rfl (by decide)) (oN [x]) (by omega) (by simp;omega) ?_
     intro p1 c1 w1 a g;have f:Ext w w1:=Ext.own (by exact .drew (.alloc hE _)) (by first|exact HO.out|exact HO.out.alloc _|exact(HO.out.alloc _).drew|exact HO.out.drew.alloc _|exact HO.out.drew) g (Nat.le_refl _);have j:=xQ a;have t:=xQ (HS.out.ext f);have ae:=f.sz
     clear a g)
   |(refine iW _ fX (by rfl) _ _ (by rfl) w.heap.size _ (k+1) (ivs (xs.take k)++ [iv x]) (by rfl) j _ 0 _ (ivs []) (by rfl) (aL9 _ _ (by unfold maxLen;omega)) (oN _) (by omega) (by omega) ?_
     intro p2 c2 w2 e l;have s:Ext w w2:=Ext.own f j l (Nat.le_refl _);have r:=xQ e
     clear e l)))
  all_goals go_wp2
  all_goals go_ret
  all_goals exact dP (by rw[d.out];simp;rw[hl.out]) (by rw[d.out];have:=r.out;rw[List.take_of_length_le (by rw[hl.out];exact Nat.le_refl _)]at this;simpa using this) s
end Go.Proofs.YtpelpnfhbepokaaGreatDoor
