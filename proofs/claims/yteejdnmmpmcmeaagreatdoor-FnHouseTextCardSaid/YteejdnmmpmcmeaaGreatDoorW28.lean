/-
  A law's walk or frame (@packed).
-/
import Derived.Test.YteejdnmmpmcmeaaGreatDoorP5
import Derived.Test.YteejdnmmpmcmeaaGreatDoorP8
import Derived.Test.YteejdnmmpmcmeaaGreatDoorP31
import Derived.Test.YteejdnmmpmcmeaaGreatDoorP32
import Derived.Test.YteejdnmmpmcmeaaGreatDoorP33
import Derived.Test.YteejdnmmpmcmeaaGreatDoorP36
import Derived.Test.YteejdnmmpmcmeaaGreatDoorP37
namespace Go.Proofs.YteejdnmmpmcmeaaGreatDoor
open Go.RowKit
set_option linter.unusedVariables false
set_option linter.unusedSimpArgs false
set_option maxRecDepth 100000 in
set_option maxHeartbeats 8000000 in
theorem tX (p:Option Addr)(n cap:Nat)(w:World)(h:(1048576:Int)<n):
  Calls Tryz.prog 10 #[.slice p n cap] w fun e w'=>e= .returned (.bool true)∧Ext w w':=by
 go_enter Tryz.func10,Tryz.ntmps10
 go_wp2
 go_ret
 exact⟨rfl,xE⟩
set_option maxRecDepth 100000 in
set_option maxHeartbeats 8000000 in
theorem xT (p0:Option Addr)(n0 cap0:Nat)(w:World)(hn:(n0:Int)≤1048576)(HE:Hid (Env w))
  (HD:Calls Tryz.prog 45 #[.slice p0 n0 cap0] w (sM w)):
  Calls Tryz.prog 10 #[.slice p0 n0 cap0] w fun e w'=>e= .returned (.bool true)∧Ext w w':=by
 unfold sM at HD
 have HD:=xQ HD
 have hd0:decide ((1048576:Int)<(n0:Int))=false:=by simp;omega
 have hd1:decide (1048576<n0)=false:=by simp;omega
 go_enter Tryz.func10,Tryz.ntmps10
 go_wp2_with fail
 refine HD.out.mono ?_
 rintro e w1 ⟨h,p,cap,q,c2,rfl,hs1,hs2,hi,hx1⟩
 have HI:=xQ hi
 have hX1:=xQ hx1
 clear hi HD hx1
 have HTi:=xQ fun(w':World) (hx:Ext w1 w') (hE:Env w')=>jN h p _ cap q _ c2 w' hE (HI.out.ext hx)
 have HTs:=xQ fun(w':World) (hx:Ext w1 w')=>jL h p _ cap q _ c2 w' (HI.out.ext hx)
 have HVa:=xQ fun(w':World) (hx:Ext w1 w')=>kO h p _ cap q _ c2 w' (HI.out.ext hx)
 have hlen:(aU h).length≤100000:=fV
 have hcases:(bN h=false∧aU h= [])∨(bN h=true∧aU h≠ []∧aW (aU h)=some h):=by
  cases hok:bN h with
  |false=>exact .inl ⟨rfl,by unfold aU;rw[if_neg (by simp[hok])]⟩
  |true=>exact .inr ⟨rfl,aAh hok,kT hok⟩
 obtain⟨l,hl⟩: ∃l,aU h=l:=⟨_,rfl⟩
 rw[hl]at HTi HTs hlen hcases
 clear hl
 go_wp2_with fail
 refine(HTi.out _ (((Mem.start w1).blkNew aQ #[.int .i64 h.aA,.int .i64 h.aB,.slice p h.cells.length cap,.int .i64 h.free,.int .i64 h.step,.int .i64 h.aD,.int .i64 h.aH,.int .i64 h.aC,.int .i64 h.aI,.slice q h.vs.length c2] (w1.heap.size) (by simp))).ext (HE.out.ext (hX1.out.trans (((Mem.start w1).blkNew aQ #[.int .i64 h.aA,.int .i64 h.aB,.slice p h.cells.length cap,.int .i64 h.free,.int .i64 h.step,.int .i64 h.aD,.int .i64 h.aH,.int .i64 h.aC,.int .i64 h.aI,.slice q h.vs.length c2] (w1.heap.size) (by simp))).ext))).mono ?_
 rintro e w2 ⟨rfl,hx2⟩
 have M2:=xQ ((((Mem.start w1).blkNew aQ #[.int .i64 h.aA,.int .i64 h.aB,.slice p h.cells.length cap,.int .i64 h.free,.int .i64 h.step,.int .i64 h.aD,.int .i64 h.aH,.int .i64 h.aC,.int .i64 h.aI,.slice q h.vs.length c2] (w1.heap.size) (by simp))).adv hx2)
 have lt2_0:=M2.out.hi 0
 clear hx2
 clear HTi
 obtain⟨ce0,ce1,ce2,ce3,ce4,ce5,ce6,ce7,ce8,ce9⟩:=(M2.out.blk (i:=0) rfl).ten
 go_wp2_with fail
 clear ce0 ce1 ce2 ce3 ce4 ce5 ce6 ce7 ce8 ce9
 refine(HTs.out _ (M2.out).ext).mono ?_
 rintro e w3 ⟨rfl,hx3⟩
 have M3:=xQ ((M2.out).adv hx3)
 clear M2
 clear lt2_0
 have lt3_0:=M3.out.hi 0
 clear hx3
 clear HTs
 rcases hcases with⟨l1,rfl⟩|⟨l1,l2,l3⟩
 ·skip
  rw[l1]at HVa
  obtain⟨ce0,ce1,ce2,ce3,ce4,ce5,ce6,ce7,ce8,ce9⟩:=(M3.out.blk (i:=0) rfl).ten
  go_wp2_with fail
  clear ce0 ce1 ce2 ce3 ce4 ce5 ce6 ce7 ce8 ce9
  refine(HVa.out _ (M3.out).ext).mono ?_
  rintro e w4 ⟨rfl,hx4⟩
  have M4:=xQ ((M3.out).adv hx4)
  clear M3
  clear lt3_0
  have lt4_0:=M4.out.hi 0
  clear hx4
  go_wp2_with fail
  refine(pC _ (HE.out.ext (hX1.out.trans (M4.out).ext))).mono ?_
  rintro e w9 ⟨rfl,hx9⟩
  have X9:Ext w w9:=hX1.out.trans ((M4.out).ext.trans hx9)
  go_wp2
  go_ret
  exact⟨rfl,X9⟩
 ·skip
  have HR:=xQ fun(w':World) (hE:Env w')=>jM l w' (by omega) hE
  rw[l3]at HR
  have HSa:=xQ fun p1 c1 q1 d1 p2 c2 q2 d2 w' (hi1:IsHouse w' h p1 h.cells.length c1 q1 h.vs.length d1) (hi2:IsHouse w' h p2 h.cells.length c2 q2 h.vs.length d2)=>eU h p1 _ c1 q1 _ d1 p2 c2 q2 d2 w' hi1 hi2
  have e0:(l== [])=false:=by simp[l2]
  have e1:l.isEmpty=false:=by simp[l2]
  clear l3 HVa
  obtain⟨ce0,ce1,ce2,ce3,ce4,ce5,ce6,ce7,ce8,ce9⟩:=(M3.out.blk (i:=0) rfl).ten
  go_wp2_with fail
  clear ce0 ce1 ce2 ce3 ce4 ce5 ce6 ce7 ce8 ce9
  refine(HR.out _ (HE.out.ext (hX1.out.trans (M3.out).ext))).mono ?_
  rintro e w4 ⟨p4,c4,q4,d4,he,o4,v4,hx4⟩
  have he2:e= .returned (.tuple #[.agg #[.int .i64 h.aA,.int .i64 h.aB,.slice p4 h.cells.length c4,.int .i64 h.free,.int .i64 h.step,.int .i64 h.aD,.int .i64 h.aH,.int .i64 h.aC,.int .i64 h.aI,.slice q4 h.vs.length d4],.bool true]):=he
  clear he
  subst he2
  have I4:=xQ (⟨Sl.own o4,Sl.own v4⟩:IsHouse w4 h p4 h.cells.length c4 q4 h.vs.length d4)
  clear o4 v4
  have M4:=xQ ((M3.out).adv hx4)
  clear M3
  clear lt3_0
  have lt4_0:=M4.out.hi 0
  clear hx4
  clear HR
  go_upto_region 10 with fail
  have hy5:Ext w4 (w4.alloc (.cells #[.int .i64 h.aA,.int .i64 h.aB,.slice p4 h.cells.length c4,.int .i64 h.free,.int .i64 h.step,.int .i64 h.aD,.int .i64 h.aH,.int .i64 h.aC,.int .i64 h.aI,.slice q4 h.vs.length d4] aQ)):=xE
  have I5:=xQ (I4.out.ext hy5)
  clear I4 hy5
  have M5:=xQ (((M4.out).blkNew aQ #[.int .i64 h.aA,.int .i64 h.aB,.slice p4 h.cells.length c4,.int .i64 h.free,.int .i64 h.step,.int .i64 h.aD,.int .i64 h.aH,.int .i64 h.aC,.int .i64 h.aI,.slice q4 h.vs.length d4] (w4.heap.size) (by simp)))
  generalize (w4.alloc (.cells #[.int .i64 h.aA,.int .i64 h.aB,.slice p4 h.cells.length c4,.int .i64 h.free,.int .i64 h.step,.int .i64 h.aD,.int .i64 h.aH,.int .i64 h.aC,.int .i64 h.aI,.slice q4 h.vs.length d4] aQ))=w5 at M5 I5⊢
  clear M4
  clear lt4_0
  have lt5_0:=M5.out.hi 0
  have lt5_1:=M5.out.hi 1
  obtain⟨ce0,ce1,ce2,ce3,ce4,ce5,ce6,ce7,ce8,ce9⟩:=(M5.out.blk (i:=1) rfl).ten
  obtain⟨de0,de1,de2,de3,de4,de5,de6,de7,de8,de9⟩:=(M5.out.blk (i:=0) rfl).ten
  go_wp2_with fail
  clear ce0 ce1 ce2 ce3 ce4 ce5 ce6 ce7 ce8 ce9 de0 de1 de2 de3 de4 de5 de6 de7 de8 de9
  refine(HSa.out _ _ _ _ _ _ _ _ _ I5.out (HI.out.ext (M5.out).ext)).mono ?_
  rintro e w6 ⟨rfl,hx6⟩
  have X6:Ext w w6:=hX1.out.trans ((M5.out).ext.trans hx6)
  go_wp2
  go_ret
  exact⟨rfl,X6⟩
theorem walk_FnHouseText (W:World)(v:Value)(u:Unit)(hc:Code W v)(hE:Env W):Calls Tryz.prog 10 #[v] W fun e w'=>e= .returned (.bool true)∧Ext W w':=by
 have hD:=xV v W hc
 obtain⟨p0,n,cap,bs,rfl,h,hb⟩:=hc
 by_cases hn:(n:Int)≤1048576
 ·exact xT p0 n cap W hn (xQ hE) hD
 ·exact tX p0 n cap W (by omega)
end Go.Proofs.YteejdnmmpmcmeaaGreatDoor
