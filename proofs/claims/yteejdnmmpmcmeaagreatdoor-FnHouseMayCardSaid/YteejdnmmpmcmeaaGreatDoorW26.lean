/-
  A law's walk or frame (@packed).
-/
import Derived.Test.YteejdnmmpmcmeaaGreatDoorK4
import Derived.Test.YteejdnmmpmcmeaaGreatDoorK7
import Derived.Test.YteejdnmmpmcmeaaGreatDoorK24
import Derived.Test.YteejdnmmpmcmeaaGreatDoorK33
namespace Go.Proofs.YteejdnmmpmcmeaaGreatDoor
open Go.RowKit
set_option linter.unusedVariables false
set_option linter.unusedSimpArgs false
theorem may_law (h:HouseD)(id:Int):(houseDue h id=0→houseMay h id=true)∧(houseDue h id<0→houseMay h id=false):=by
 unfold houseDue houseMay
 cases houseStay h id with
 |none=>simp
 |some s=>
  dsimp only
  unfold mayLeave
  refine⟨fun e=>by simp[e],fun e=> ?_⟩
  have h1: ¬stayDue h.free h.step h.price h.capp s.1 s.2.1 s.2.2 h.clock=0:=by omega
  have h2: ¬0≤stayDue h.free h.step h.price h.capp s.1 s.2.1 s.2.2 h.clock:=by omega
  simp[h1,h2]
set_option maxRecDepth 100000 in
set_option maxHeartbeats 8000000 in
theorem fnHouseMay_big (p:Option Addr)(n cap:Nat)(w:World)(h:(1048576:Int)<n):
  Calls Tryz.prog 6 #[.slice p n cap] w fun e w'=>e= .returned (.bool true)∧Ext w w':=by
 go_enter Tryz.func6,Tryz.ntmps6
 go_wp2
 go_ret
 exact⟨rfl,by(repeat' (first|exact Ext.refl _|(with_reducible assumption)|(with_reducible refine Ext.alloc ?_ _)|(with_reducible refine Ext.setCell ?_ (by first|exact Nat.le_refl _|(dsimp only;omega)|(simp;done)|(simp;omega)) _)|(with_reducible refine Ext.drew ?_)|(with_reducible refine Ext.drewN ?_ _)|(refine Ext.trans ?_ (by with_reducible assumption))))⟩
set_option maxRecDepth 100000 in
set_option maxHeartbeats 8000000 in
theorem fnHouseMay_o (p0:Option Addr)(n0 cap0:Nat)(w:World)(hn:(n0:Int)≤1048576)(HE:Hid (Env w))
  (HD:Calls Tryz.prog 29 #[.slice p0 n0 cap0] w (DrewCar w)):
  Calls Tryz.prog 6 #[.slice p0 n0 cap0] w fun e w'=>e= .returned (.bool true)∧Ext w w':=by
 unfold DrewCar at HD
 have HD:=Lib.hid HD
 have hd0:decide ((1048576:Int)<(n0:Int))=false:=by simp;omega
 have hd1:decide (1048576<n0)=false:=by simp;omega
 go_enter Tryz.func6,Tryz.ntmps6
 go_wp2_with fail
 refine HD.out.mono ?_
 rintro e w1 ⟨h,p,cap,q,c2,id,rfl,hs1,hs2,hi,hx1⟩
 have HI:=Lib.hid hi
 have hX1:=Lib.hid hx1
 clear hi HD hx1
 have HIm:=Lib.hid fun(w':World) (hx:Ext w1 w')=>implHouseMay h id p _ cap q _ c2 w' (HI.out.ext hx)
 have HSm:=Lib.hid fun(w':World) (hx:Ext w1 w')=>specHouseMay h id p _ cap q _ c2 w' (HI.out.ext hx)
 have HDu:=Lib.hid fun(w':World) (hx:Ext w1 w')=>implHouseDue h id p _ cap q _ c2 w' (HI.out.ext hx)
 obtain⟨ok,hok⟩: ∃b,houseMay h id=b:=⟨_,rfl⟩
 obtain⟨due,hdue⟩: ∃d,houseDue h id=d:=⟨_,rfl⟩
 have hlaw:=may_law h id
 rw[hok]at HIm HSm hlaw
 rw[hdue]at HDu hlaw
 clear hok hdue
 go_wp2_with fail
 refine(HIm.out _ (((Mem.start w1).blkNew TH10 #[.int .i64 h.wide,.int .i64 h.deep,.slice p h.cells.length cap,.int .i64 h.free,.int .i64 h.step,.int .i64 h.price,.int .i64 h.capp,.int .i64 h.clock,.int .i64 h.bank,.slice q h.vs.length c2] (w1.heap.size) (by simp))).ext).mono ?_
 rintro e w2 ⟨rfl,hx2⟩
 have M2:=Lib.hid ((((Mem.start w1).blkNew TH10 #[.int .i64 h.wide,.int .i64 h.deep,.slice p h.cells.length cap,.int .i64 h.free,.int .i64 h.step,.int .i64 h.price,.int .i64 h.capp,.int .i64 h.clock,.int .i64 h.bank,.slice q h.vs.length c2] (w1.heap.size) (by simp))).adv hx2)
 have lt2_0:w1.heap.size<w2.heap.size:=(M2.out.lt (i:=0) rfl rfl).2
 clear hx2
 clear HIm
 obtain⟨ce0,ce1,ce2,ce3,ce4,ce5,ce6,ce7,ce8,ce9⟩:=(M2.out.blk (i:=0) rfl).ten
 go_wp2_with fail
 clear ce0 ce1 ce2 ce3 ce4 ce5 ce6 ce7 ce8 ce9
 refine(HSm.out _ (M2.out).ext).mono ?_
 rintro e w3 ⟨rfl,hx3⟩
 have M3:=Lib.hid ((M2.out).adv hx3)
 clear M2
 clear lt2_0
 have lt3_0:w1.heap.size<w3.heap.size:=(M3.out.lt (i:=0) rfl rfl).2
 clear hx3
 clear HSm
 obtain⟨ce0,ce1,ce2,ce3,ce4,ce5,ce6,ce7,ce8,ce9⟩:=(M3.out.blk (i:=0) rfl).ten
 go_wp2_with fail
 clear ce0 ce1 ce2 ce3 ce4 ce5 ce6 ce7 ce8 ce9
 refine(HDu.out _ (M3.out).ext).mono ?_
 rintro e w4 ⟨rfl,hx4⟩
 have M4:=Lib.hid ((M3.out).adv hx4)
 clear M3
 clear lt3_0
 have lt4_0:w1.heap.size<w4.heap.size:=(M4.out.lt (i:=0) rfl rfl).2
 clear hx4
 clear HDu
 by_cases d0:due=0
 ·skip
  obtain rfl:ok=true:=hlaw.1 d0
  subst d0
  go_wp2_with fail
  refine(alive_any _ (HE.out.ext (hX1.out.trans (M4.out).ext))).mono ?_
  rintro e w9 ⟨rfl,hx9⟩
  have X9:Ext w w9:=hX1.out.trans ((M4.out).ext.trans hx9)
  go_wp2
  go_ret
  exact⟨rfl,X9⟩
 have e0:(due !=0)=true:=by simp[d0]
 by_cases d1:due<0
 ·skip
  obtain rfl:ok=false:=hlaw.2 d1
  have e1:decide (0≤due)=false:=by simp;omega
  clear d0
  go_wp2_with fail
  refine(alive_any _ (HE.out.ext (hX1.out.trans (M4.out).ext))).mono ?_
  rintro e w9 ⟨rfl,hx9⟩
  have X9:Ext w w9:=hX1.out.trans ((M4.out).ext.trans hx9)
  go_wp2
  go_ret
  exact⟨rfl,X9⟩
 ·skip
  have e1:decide (0≤due)=true:=by simp;omega
  clear d0
  go_wp2_with fail
  refine(alive_any _ (HE.out.ext (hX1.out.trans (M4.out).ext))).mono ?_
  rintro e w9 ⟨rfl,hx9⟩
  have X9:Ext w w9:=hX1.out.trans ((M4.out).ext.trans hx9)
  go_wp2
  go_ret
  exact⟨rfl,X9⟩
theorem walk_FnHouseMay (W:World)(v:Value)(u:Unit)(hc:Code W v)(hE:Env W):Calls Tryz.prog 6 #[v] W fun e w'=>e= .returned (.bool true)∧Ext W w':=by
 have hD:=drawHouseMay v W hc
 obtain⟨p0,n,cap,bs,rfl,h,hb⟩:=hc
 by_cases hn:(n:Int)≤1048576
 ·exact fnHouseMay_o p0 n cap W hn (Lib.hid hE) hD
 ·exact fnHouseMay_big p0 n cap W (by omega)
end Go.Proofs.YteejdnmmpmcmeaaGreatDoor
