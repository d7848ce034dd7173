/-
  A law's walk or frame (@packed).
-/
import Derived.Test.YteejdnmmpmcmeaaGreatDoorP5
import Derived.Test.YteejdnmmpmcmeaaGreatDoorP8
import Derived.Test.YteejdnmmpmcmeaaGreatDoorP37
import Derived.Test.YteejdnmmpmcmeaaGreatDoorP38
import Derived.Test.YteejdnmmpmcmeaaGreatDoorP39
namespace Go.Proofs.YteejdnmmpmcmeaaGreatDoor
open Go.RowKit
set_option linter.unusedVariables false
set_option linter.unusedSimpArgs false
set_option maxRecDepth 100000 in
set_option maxHeartbeats 8000000 in
theorem wG (p:Option Addr)(n cap:Nat)(w:World)(h:(1048576:Int)<n):
  Calls Tryz.prog 11 #[.slice p n cap] w fun e w'=>e= .returned (.bool true)∧Ext w w':=by
 go_enter Tryz.func11,Tryz.ntmps11
 go_wp2
 go_ret
 exact⟨rfl,xE⟩
set_option maxRecDepth 100000 in
set_option maxHeartbeats 8000000 in
theorem aAn (p0:Option Addr)(n0 cap0:Nat)(w:World)(hn:(n0:Int)≤1048576)(HE:Hid (Env w))
  (HD:Calls Tryz.prog 49 #[.slice p0 n0 cap0] w (wX w)):
  Calls Tryz.prog 11 #[.slice p0 n0 cap0] w fun e w'=>e= .returned (.bool true)∧Ext w w':=by
 unfold wX at HD
 have HD:=xQ HD
 have hd0:decide ((1048576:Int)<(n0:Int))=false:=by simp;omega
 have hd1:decide (1048576<n0)=false:=by simp;omega
 go_enter Tryz.func11,Tryz.ntmps11
 go_wp2_with fail
 refine HD.out.mono ?_
 rintro e w1 ⟨h,p,cap,q,c2,n,rfl,hs1,hs2,hn2,hi,hx1⟩
 have HI:=xQ hi
 have hX1:=xQ hx1
 clear hi HD hx1
 obtain⟨hn3,hn4⟩:=hn2
 have HTi:=xQ fun(w':World) (hx:Ext w1 w') (hE:Env w')=>mX h n p _ cap q _ c2 w' hE (HI.out.ext hx)
 have HTs:=xQ fun(w':World) (hx:Ext w1 w')=>mP h n p _ cap q _ c2 w' (HI.out.ext hx)
 have hlen:(bK h n).length≤200000:=qK
 have hcases:bK h n= []∨(bK h n≠ []∧2≤(bK h n).length∧bZ (bK h n)=some (h,n)∧bZ ((bK h n).take ((bK h n).length-1))=none∧bZ ((bK h n).take ((bK h n).length-2))=none):=by
  by_cases h0:bK h n= []
  ·exact .inl h0
  ·obtain⟨ok,u,u1,u2,u3⟩:=rR h0
   have hu:0<u.length:=by cases u with|nil=>exact absurd rfl u2|cons _ _=>simp
   exact .inr ⟨h0,by rw[u3];simp;omega,pK ok h0 rfl,uY h0 1 (.inl rfl),uY h0 2 (.inr rfl)⟩
 obtain⟨l,hl⟩: ∃l,bK h n=l:=⟨_,rfl⟩
 rw[hl]at HTi HTs hlen hcases
 clear hl
 go_wp2_with fail
 refine(HTi.out _ (((Mem.start w1).blkNew aQ #[.int .i64 h.aA,.int .i64 h.aB,.slice p h.cells.length cap,.int .i64 h.free,.int .i64 h.step,.int .i64 h.aD,.int .i64 h.aH,.int .i64 h.aC,.int .i64 h.aI,.slice q h.vs.length c2] (w1.heap.size) (by simp))).ext (HE.out.ext (hX1.out.trans (((Mem.start w1).blkNew aQ #[.int .i64 h.aA,.int .i64 h.aB,.slice p h.cells.length cap,.int .i64 h.free,.int .i64 h.step,.int .i64 h.aD,.int .i64 h.aH,.int .i64 h.aC,.int .i64 h.aI,.slice q h.vs.length c2] (w1.heap.size) (by simp))).ext))).mono ?_
 rintro e w2 ⟨rfl,hx2⟩
 have M2:=xQ ((((Mem.start w1).blkNew aQ #[.int .i64 h.aA,.int .i64 h.aB,.slice p h.cells.length cap,.int .i64 h.free,.int .i64 h.step,.int .i64 h.aD,.int .i64 h.aH,.int .i64 h.aC,.int .i64 h.aI,.slice q h.vs.length c2] (w1.heap.size) (by simp))).adv hx2)
 have lt2_0:=M2.out.hi 0
 clear hx2
 clear HTi
 obtain⟨ce0,ce1,ce2,ce3,ce4,ce5,ce6,ce7,ce8,ce9⟩:=(M2.out.blk (i:=0) rfl).ten
 go_wp2_with fail
 clear ce0 ce1 ce2 ce3 ce4 ce5 ce6 ce7 ce8 ce9
 refine(HTs.out _ (M2.out).ext).mono ?_
 rintro e w3 ⟨rfl,hx3⟩
 have M3:=xQ ((M2.out).adv hx3)
 clear M2
 clear lt2_0
 have lt3_0:=M3.out.hi 0
 clear hx3
 clear HTs
 rcases hcases with rfl|⟨l1,l2,l3,l4,l5⟩
 ·skip
  go_wp2_with fail
  refine(pC _ (HE.out.ext (hX1.out.trans (M3.out).ext))).mono ?_
  rintro e wz ⟨rfl,hxz⟩
  have XZ:Ext w wz:=hX1.out.trans ((M3.out).ext.trans hxz)
  go_wp2
  go_ret
  exact⟨rfl,XZ⟩
 ·skip
  have HR1:=xQ fun(w':World) (hE:Env w')=>kG l w' (by omega) hE
  have HR2:=xQ fun(w':World) (hE:Env w')=>(by
   have h3:=kG (l.take (l.length-1)) w' (by simp;omega) hE
   rw[l4,←rC]at h3
   exact h3:Calls Tryz.prog 44 #[.string ((⟨l.toArray⟩:ByteArray).extract 0 (l.length-1))] w' (kJ none w'))
  have HR3:=xQ fun(w':World) (hE:Env w')=>(by
   have h3:=kG (l.take (l.length-2)) w' (by simp;omega) hE
   rw[l5,←rC]at h3
   exact h3:Calls Tryz.prog 44 #[.string ((⟨l.toArray⟩:ByteArray).extract 0 (l.length-2))] w' (kJ none w'))
  rw[l3]at HR1
  unfold kJ aB1 at HR1 HR2 HR3
  have e0:(l== [])=false:=by simp[l1]
  have e1:l.isEmpty=false:=by simp[l1]
  have i0:(0:Int)≤(l.length:Int)-1:=by omega
  have i1:(l.length:Int)-1≤(l.length:Int):=by omega
  have i2:(0:Int)≤(l.length:Int)-2:=by omega
  have i3:(l.length:Int)-2≤(l.length:Int):=by omega
  have i4:((l.length:Int)-1).toNat=l.length-1:=by omega
  have i5:((l.length:Int)-2).toNat=l.length-2:=by omega
  have i6: ¬l.length<1:=by omega
  have i7: ¬l.length<2:=by omega
  clear l3 l4 l5
  go_wp2_with fail
  refine(HR1.out _ (HE.out.ext (hX1.out.trans (M3.out).ext))).mono ?_
  rintro e w4 ⟨p4,c4,q4,d4,he,ho,hv,hx⟩
  have he2:e= .returned (.tuple #[.agg #[.int .i64 h.aA,.int .i64 h.aB,.slice p4 h.cells.length c4,.int .i64 h.free,.int .i64 h.step,.int .i64 h.aD,.int .i64 h.aH,.int .i64 h.aC,.int .i64 h.aI,.slice q4 h.vs.length d4],.int .i64 n,.bool true]):=he
  clear he
  subst he2
  have M4:=xQ ((M3.out).own2s hx ho hv (Nat.le_refl _) (by decide))
  clear M3
  clear lt3_0
  have lt4_2:=M4.out.hi 2
  clear ho hv hx
  clear HR1
  go_wp2_with fail
  refine(HR2.out _ (HE.out.ext (hX1.out.trans (((M4.out).blkNew aQ #[.int .i64 h.aA,.int .i64 h.aB,.slice p4 h.cells.length c4,.int .i64 h.free,.int .i64 h.step,.int .i64 h.aD,.int .i64 h.aH,.int .i64 h.aC,.int .i64 h.aI,.slice q4 h.vs.length d4] (w4.heap.size) (by simp))).ext))).mono ?_
  rintro e w5 ⟨p6,c6,q6,d6,he,ho,hv,hx⟩
  have he2:e= .returned (.tuple #[.agg #[.int .i64 0,.int .i64 0,.slice p6 0 c6,.int .i64 0,.int .i64 0,.int .i64 0,.int .i64 0,.int .i64 0,.int .i64 0,.slice q6 0 d6],.int .i64 0,.bool false]):=he
  clear he
  subst he2
  have M5:=xQ ((((M4.out).blkNew aQ #[.int .i64 h.aA,.int .i64 h.aB,.slice p4 h.cells.length c4,.int .i64 h.free,.int .i64 h.step,.int .i64 h.aD,.int .i64 h.aH,.int .i64 h.aC,.int .i64 h.aI,.slice q4 h.vs.length d4] (w4.heap.size) (by simp))).own2s hx ho hv (Nat.le_refl _) (by decide))
  clear M4
  clear lt4_2
  have lt5_2:=M5.out.hi 2
  have lt5_5:=M5.out.hi 5
  clear ho hv hx
  clear HR2
  go_wp2_with fail
  refine(HR3.out _ (HE.out.ext (hX1.out.trans (((M5.out).blkNew aQ #[.int .i64 0,.int .i64 0,.slice p6 0 c6,.int .i64 0,.int .i64 0,.int .i64 0,.int .i64 0,.int .i64 0,.int .i64 0,.slice q6 0 d6] (w5.heap.size) (by simp))).ext))).mono ?_
  rintro e w6 ⟨p8,c8,q8,d8,he,ho,hv,hx⟩
  have he2:e= .returned (.tuple #[.agg #[.int .i64 0,.int .i64 0,.slice p8 0 c8,.int .i64 0,.int .i64 0,.int .i64 0,.int .i64 0,.int .i64 0,.int .i64 0,.slice q8 0 d8],.int .i64 0,.bool false]):=he
  clear he
  subst he2
  have M6:=xQ ((((M5.out).blkNew aQ #[.int .i64 0,.int .i64 0,.slice p6 0 c6,.int .i64 0,.int .i64 0,.int .i64 0,.int .i64 0,.int .i64 0,.int .i64 0,.slice q6 0 d6] (w5.heap.size) (by simp))).own2s hx ho hv (Nat.le_refl _) (by decide))
  clear M5
  clear lt5_2 lt5_5
  have lt6_2:=M6.out.hi 2
  have lt6_5:=M6.out.hi 5
  have lt6_8:=M6.out.hi 8
  clear ho hv hx
  clear HR3
  obtain⟨ce0,ce1,ce2,ce3,ce4,ce5,ce6,ce7,ce8,ce9⟩:=(M6.out.blk (i:=5) rfl).ten
  obtain⟨de0,de1,de2,de3,de4,de5,de6,de7,de8,de9⟩:=(M6.out.blk (i:=8) rfl).ten
  go_wp2_with fail
  clear ce0 ce1 ce2 ce3 ce4 ce5 ce6 ce7 ce8 ce9 de0 de1 de2 de3 de4 de5 de6 de7 de8 de9
  refine(eU h p4 h.cells.length c4 q4 h.vs.length d4 p cap q c2 _ ((⟨M6.out.sl (i:=6) rfl,M6.out.sl (i:=7) rfl⟩:IsHouse w6 h p4 h.cells.length c4 q4 h.vs.length d4).ext xE) (HI.out.ext (((M6.out).blkNew aQ #[.int .i64 0,.int .i64 0,.slice p8 0 c8,.int .i64 0,.int .i64 0,.int .i64 0,.int .i64 0,.int .i64 0,.int .i64 0,.slice q8 0 d8] (w6.heap.size) (by simp))).ext)).mono ?_
  rintro e w7 ⟨rfl,hx7⟩
  have M7:=xQ ((((M6.out).blkNew aQ #[.int .i64 0,.int .i64 0,.slice p8 0 c8,.int .i64 0,.int .i64 0,.int .i64 0,.int .i64 0,.int .i64 0,.int .i64 0,.slice q8 0 d8] (w6.heap.size) (by simp))).adv hx7)
  clear M6
  clear lt6_2 lt6_5 lt6_8
  have lt7_0:=M7.out.hi 0
  have lt7_3:=M7.out.hi 3
  have lt7_6:=M7.out.hi 6
  have lt7_9:=M7.out.hi 9
  clear hx7
  have XZ:Ext w w7:=hX1.out.trans (M7.out).ext
  go_wp2
  go_ret
  exact⟨rfl,XZ⟩
theorem walk_FnSaveText (W:World)(v:Value)(u:Unit)(hc:Code W v)(hE:Env W):Calls Tryz.prog 11 #[v] W fun e w'=>e= .returned (.bool true)∧Ext W w':=by
 have hD:=aAr v W hc
 obtain⟨p0,n,cap,bs,rfl,h,hb⟩:=hc
 by_cases hn:(n:Int)≤1048576
 ·exact aAn p0 n cap W hn (xQ hE) hD
 ·exact wG p0 n cap W (by omega)
end Go.Proofs.YteejdnmmpmcmeaaGreatDoor
