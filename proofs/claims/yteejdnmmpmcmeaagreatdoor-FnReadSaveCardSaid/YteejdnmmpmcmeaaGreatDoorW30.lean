/-
  A law's walk or frame (@packed).
-/
import Derived.Test.YteejdnmmpmcmeaaGreatDoorP5
import Derived.Test.YteejdnmmpmcmeaaGreatDoorP8
import Derived.Test.YteejdnmmpmcmeaaGreatDoorP37
import Derived.Test.YteejdnmmpmcmeaaGreatDoorP38
import Derived.Test.YteejdnmmpmcmeaaGreatDoorP39
namespace Go.Proofs.YteejdnmmpmcmeaaGreatDoor
open Go.RowKit
set_option linter.unusedVariables false
set_option linter.unusedSimpArgs false
set_option maxRecDepth 100000 in
set_option maxHeartbeats 8000000 in
theorem wH (p:Option Addr)(n cap:Nat)(w:World)(h:(1048576:Int)<n):
  Calls Tryz.prog 13 #[.slice p n cap] w fun e w'=>e= .returned (.bool true)∧Ext w w':=by
 go_enter Tryz.func13,Tryz.ntmps13
 go_wp2
 go_ret
 exact⟨rfl,xE⟩
set_option maxRecDepth 100000 in
set_option maxHeartbeats 8000000 in
theorem aAo (p0:Option Addr)(n0 cap0:Nat)(w:World)(hn:(n0:Int)≤1048576)(HE:Hid (Env w))
  (HD:Calls Tryz.prog 54 #[.slice p0 n0 cap0] w (pE w)):
  Calls Tryz.prog 13 #[.slice p0 n0 cap0] w fun e w'=>e= .returned (.bool true)∧Ext w w':=by
 unfold pE at HD
 have HD:=xQ HD
 have hd0:decide ((1048576:Int)<(n0:Int))=false:=by simp;omega
 have hd1:decide (1048576<n0)=false:=by simp;omega
 go_enter Tryz.func13,Tryz.ntmps13
 go_wp2_with fail
 refine HD.out.mono ?_
 rintro e w1 ⟨s,rfl,hss,hx1⟩
 have hX1:=xQ hx1
 clear HD hx1
 obtain⟨l,hl,hll⟩: ∃l:List UInt8,Value.string s=str l∧l.length≤300000:=by
  obtain⟨⟨l⟩⟩:=s
  exact⟨l,rfl,by simpa[ByteArray.size]using hss⟩
 rw[hl]
 clear hl hss
 have HRi:=xQ fun(w':World) (hE:Env w')=>kG l w' (by omega) hE
 have HRs:=xQ fun(w':World)=>zS l w' (by omega)
 have hcases:bZ l=none∨ ∃h n,bZ l=some (h,n):=by
  cases hq:bZ l with
  |none=>exact .inl rfl
  |some z=>exact .inr ⟨z.1,z.2,rfl⟩
 rcases hcases with hr|⟨h,n,hr⟩
 ·skip
  rw[hr]at HRi HRs
  unfold kJ aB1 at HRi HRs
  clear hr
  go_wp2_with fail
  refine(HRi.out _ (HE.out.ext (hX1.out.trans (Mem.start w1).ext))).mono ?_
  rintro e w2 ⟨p4,c4,q4,d4,he,ho,hv,hx⟩
  have he2:e= .returned (.tuple #[.agg #[.int .i64 0,.int .i64 0,.slice p4 0 c4,.int .i64 0,.int .i64 0,.int .i64 0,.int .i64 0,.int .i64 0,.int .i64 0,.slice q4 0 d4],.int .i64 0,.bool false]):=he
  clear he
  subst he2
  have M2:=xQ ((Mem.start w1).own2s hx ho hv (Nat.le_refl _) (by decide))
  clear ho hv hx
  clear HRi
  go_wp2_with fail
  refine(HRs.out _).mono ?_
  rintro e w3 ⟨p6,c6,q6,d6,he,ho,hv,hx⟩
  have he2:e= .returned (.tuple #[.agg #[.int .i64 0,.int .i64 0,.slice p6 0 c6,.int .i64 0,.int .i64 0,.int .i64 0,.int .i64 0,.int .i64 0,.int .i64 0,.slice q6 0 d6],.int .i64 0,.bool false]):=he
  clear he
  subst he2
  have M3:=xQ ((((M2.out).blkNew aQ #[.int .i64 0,.int .i64 0,.slice p4 0 c4,.int .i64 0,.int .i64 0,.int .i64 0,.int .i64 0,.int .i64 0,.int .i64 0,.slice q4 0 d4] (w2.heap.size) (by simp))).own2s hx ho hv (Nat.le_refl _) (by decide))
  clear M2
  have lt3_2:=M3.out.hi 2
  clear ho hv hx
  clear HRs
  obtain⟨ce0,ce1,ce2,ce3,ce4,ce5,ce6,ce7,ce8,ce9⟩:=(M3.out.blk (i:=2) rfl).ten
  go_wp2_with fail
  clear ce0 ce1 ce2 ce3 ce4 ce5 ce6 ce7 ce8 ce9
  refine(eU bT p4 0 c4 q4 0 d4 p6 c6 q6 d6 _ ((⟨M3.out.sl (i:=3) rfl,M3.out.sl (i:=4) rfl⟩:IsHouse w3 bT p4 0 c4 q4 0 d4).ext xE) ((⟨M3.out.sl (i:=0) rfl,M3.out.sl (i:=1) rfl⟩:IsHouse w3 bT p6 0 c6 q6 0 d6).ext xE)).mono ?_
  rintro e w4 ⟨rfl,hx4⟩
  have M4:=xQ ((((M3.out).blkNew aQ #[.int .i64 0,.int .i64 0,.slice p6 0 c6,.int .i64 0,.int .i64 0,.int .i64 0,.int .i64 0,.int .i64 0,.int .i64 0,.slice q6 0 d6] (w3.heap.size) (by simp))).adv hx4)
  clear M3
  clear lt3_2
  have lt4_0:=M4.out.hi 0
  have lt4_3:=M4.out.hi 3
  clear hx4
  obtain⟨ce0,ce1,ce2,ce3,ce4,ce5,ce6,ce7,ce8,ce9⟩:=(M4.out.blk (i:=3) rfl).ten
  go_wp2_with fail
  clear ce0 ce1 ce2 ce3 ce4 ce5 ce6 ce7 ce8 ce9
  refine(qP p4 c4 q4 d4 _ (⟨M4.out.sl (i:=4) rfl,M4.out.sl (i:=5) rfl⟩:IsHouse w4 bT p4 0 c4 q4 0 d4)).mono ?_
  rintro e w5 ⟨rfl,hx5⟩
  have M5:=xQ ((M4.out).adv hx5)
  clear M4
  clear lt4_0 lt4_3
  have lt5_0:=M5.out.hi 0
  have lt5_3:=M5.out.hi 3
  clear hx5
  go_wp2_with fail
  refine(pC _ (HE.out.ext (hX1.out.trans (M5.out).ext))).mono ?_
  rintro e wz ⟨rfl,hxz⟩
  have XZ:Ext w wz:=hX1.out.trans ((M5.out).ext.trans hxz)
  go_wp2
  go_ret
  exact⟨rfl,XZ⟩
 ·skip
  rw[hr]at HRi HRs
  obtain⟨hok,htx⟩:=lM hr
  unfold kJ aB1 at HRi HRs
  clear hr
  go_wp2_with fail
  refine(HRi.out _ (HE.out.ext (hX1.out.trans (Mem.start w1).ext))).mono ?_
  rintro e w2 ⟨p4,c4,q4,d4,he,ho,hv,hx⟩
  have he2:e= .returned (.tuple #[.agg #[.int .i64 h.aA,.int .i64 h.aB,.slice p4 h.cells.length c4,.int .i64 h.free,.int .i64 h.step,.int .i64 h.aD,.int .i64 h.aH,.int .i64 h.aC,.int .i64 h.aI,.slice q4 h.vs.length d4],.int .i64 n,.bool true]):=he
  clear he
  subst he2
  have M2:=xQ ((Mem.start w1).own2s hx ho hv (Nat.le_refl _) (by decide))
  clear ho hv hx
  clear HRi
  go_wp2_with fail
  refine(HRs.out _).mono ?_
  rintro e w3 ⟨p6,c6,q6,d6,he,ho,hv,hx⟩
  have he2:e= .returned (.tuple #[.agg #[.int .i64 h.aA,.int .i64 h.aB,.slice p6 h.cells.length c6,.int .i64 h.free,.int .i64 h.step,.int .i64 h.aD,.int .i64 h.aH,.int .i64 h.aC,.int .i64 h.aI,.slice q6 h.vs.length d6],.int .i64 n,.bool true]):=he
  clear he
  subst he2
  have M3:=xQ ((((M2.out).blkNew aQ #[.int .i64 h.aA,.int .i64 h.aB,.slice p4 h.cells.length c4,.int .i64 h.free,.int .i64 h.step,.int .i64 h.aD,.int .i64 h.aH,.int .i64 h.aC,.int .i64 h.aI,.slice q4 h.vs.length d4] (w2.heap.size) (by simp))).own2s hx ho hv (Nat.le_refl _) (by decide))
  clear M2
  have lt3_2:=M3.out.hi 2
  clear ho hv hx
  clear HRs
  obtain⟨ce0,ce1,ce2,ce3,ce4,ce5,ce6,ce7,ce8,ce9⟩:=(M3.out.blk (i:=2) rfl).ten
  go_wp2_with fail
  clear ce0 ce1 ce2 ce3 ce4 ce5 ce6 ce7 ce8 ce9
  refine(eU h p4 h.cells.length c4 q4 h.vs.length d4 p6 c6 q6 d6 _ ((⟨M3.out.sl (i:=3) rfl,M3.out.sl (i:=4) rfl⟩:IsHouse w3 h p4 h.cells.length c4 q4 h.vs.length d4).ext xE) ((⟨M3.out.sl (i:=0) rfl,M3.out.sl (i:=1) rfl⟩:IsHouse w3 h p6 h.cells.length c6 q6 h.vs.length d6).ext xE)).mono ?_
  rintro e w4 ⟨rfl,hx4⟩
  have M4:=xQ ((((M3.out).blkNew aQ #[.int .i64 h.aA,.int .i64 h.aB,.slice p6 h.cells.length c6,.int .i64 h.free,.int .i64 h.step,.int .i64 h.aD,.int .i64 h.aH,.int .i64 h.aC,.int .i64 h.aI,.slice q6 h.vs.length d6] (w3.heap.size) (by simp))).adv hx4)
  clear M3
  clear lt3_2
  have lt4_0:=M4.out.hi 0
  have lt4_3:=M4.out.hi 3
  clear hx4
  obtain⟨ce0,ce1,ce2,ce3,ce4,ce5,ce6,ce7,ce8,ce9⟩:=(M4.out.blk (i:=3) rfl).ten
  go_wp2_with fail
  clear ce0 ce1 ce2 ce3 ce4 ce5 ce6 ce7 ce8 ce9
  have hv2:=mX h n p4 _ c4 q4 _ d4 _ (HE.out.ext (hX1.out.trans (M4.out).ext)) (⟨M4.out.sl (i:=4) rfl,M4.out.sl (i:=5) rfl⟩:IsHouse w4 h p4 h.cells.length c4 q4 h.vs.length d4)
  rw[htx]at hv2
  refine(hv2).mono ?_
  rintro e w5 ⟨rfl,hx5⟩
  have M5:=xQ ((M4.out).adv hx5)
  clear M4
  clear lt4_0 lt4_3
  have lt5_0:=M5.out.hi 0
  have lt5_3:=M5.out.hi 3
  clear hx5
  obtain⟨ce0,ce1,ce2,ce3,ce4,ce5,ce6,ce7,ce8,ce9⟩:=(M5.out.blk (i:=3) rfl).ten
  go_wp2_with fail
  clear ce0 ce1 ce2 ce3 ce4 ce5 ce6 ce7 ce8 ce9
  have hv1:=kO h p4 _ c4 q4 _ d4 _ (⟨M5.out.sl (i:=4) rfl,M5.out.sl (i:=5) rfl⟩:IsHouse w5 h p4 h.cells.length c4 q4 h.vs.length d4)
  rw[hok]at hv1
  refine(hv1).mono ?_
  rintro e w6 ⟨rfl,hx6⟩
  have M6:=xQ ((M5.out).adv hx6)
  clear M5
  clear lt5_0 lt5_3
  have lt6_0:=M6.out.hi 0
  have lt6_3:=M6.out.hi 3
  clear hx6
  have XZ:Ext w w6:=hX1.out.trans (M6.out).ext
  go_wp2
  go_ret
  exact⟨rfl,XZ⟩
theorem walk_FnReadSave (W:World)(v:Value)(u:Unit)(hc:Code W v)(hE:Env W):Calls Tryz.prog 13 #[v] W fun e w'=>e= .returned (.bool true)∧Ext W w':=by
 have hD:=aAs v W hc
 obtain⟨p0,n,cap,bs,rfl,h,hb⟩:=hc
 by_cases hn:(n:Int)≤1048576
 ·exact aAo p0 n cap W hn (xQ hE) hD
 ·exact wH p0 n cap W (by omega)
end Go.Proofs.YteejdnmmpmcmeaaGreatDoor
