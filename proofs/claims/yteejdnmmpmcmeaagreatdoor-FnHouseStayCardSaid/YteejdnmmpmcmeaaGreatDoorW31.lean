/-
  A law's walk or frame (@packed).
-/
import Derived.Test.YteejdnmmpmcmeaaGreatDoorK4
import Derived.Test.YteejdnmmpmcmeaaGreatDoorK7
import Derived.Test.YteejdnmmpmcmeaaGreatDoorK23
import Derived.Test.YteejdnmmpmcmeaaGreatDoorK24
import Derived.Test.YteejdnmmpmcmeaaGreatDoorK33
import Derived.Test.YteejdnmmpmcmeaaGreatDoorK34
import Derived.Test.YteejdnmmpmcmeaaGreatDoorW27
namespace Go.Proofs.YteejdnmmpmcmeaaGreatDoor
open Go.RowKit
set_option linter.unusedVariables false
set_option linter.unusedSimpArgs false
theorem visitAt_cars {h:HouseD}(hok:houseOk h=true)(id:Int):(visitAt id h.vs=none↔id∉carsOf h.cells):=by
 obtain⟨q1,q2,q3,q4,q5⟩:=(house_iff h).1 hok
 rw[←q4]
 unfold visitAt
 rw[List.find?_eq_none]
 simp only[List.mem_map,not_exists,not_and]
 constructor
 ·intro hh v hv e
  exact hh v hv (by simp[e])
 ·intro hh v hv e
  exact hh v hv (by simpa using e)
theorem stay_law (h:HouseD)(id:Int):(houseOk h=false∧houseStay h id=none)∨(houseOk h=true∧houseStay h id=none∧hallFind h.wide h.deep h.cells id= -1)∨ ∃a1 a2 a3,houseOk h=true∧houseStay h id=some (a1,a2,a3)∧0≤hallFind h.wide h.deep h.cells id∧stayOk a1 a2 a3=true∧a1≤h.clock:=by
 cases hok:houseOk h with
 |false=>exact .inl ⟨rfl,by unfold houseStay;rw[if_neg (by simp[hok])]⟩
 |true=>
  right
  obtain⟨q1,_⟩:=(house_iff h).1 hok
  cases hs:houseStay h id with
  |none=>
   left
   refine⟨rfl,rfl,?_⟩
   unfold houseStay at hs
   rw[if_pos hok]at hs
   have hv:visitAt id h.vs=none:=by
    cases hv:visitAt id h.vs with
    |none=>rfl
    |some v=>rw[hv]at hs;cases hs
   rcases find_cars q1 id with h1|h1
   ·exact absurd h1.1 ((visitAt_cars hok id).1 hv)
   ·exact h1.2
  |some s=>
   right
   obtain⟨a1,a2,a3⟩:=s
   obtain⟨_,_,b2,b3,b4,v,hv,_⟩:=stay_some hs
   obtain⟨t1,t2,t3,t4,t5,t6⟩:=stay_parts b3
   refine⟨a1,a2,a3,rfl,rfl,?_,b3,by omega⟩
   rcases find_cars q1 id with h1|h1
   ·exact h1.2
   ·have:=(visitAt_cars hok id).2 h1.1
    rw[hv]at this;cases this
set_option maxRecDepth 100000 in
set_option maxHeartbeats 8000000 in
theorem fnHouseStay_big (p:Option Addr)(n cap:Nat)(w:World)(h:(1048576:Int)<n):
  Calls Tryz.prog 4 #[.slice p n cap] w fun e w'=>e= .returned (.bool true)∧Ext w w':=by
 go_enter Tryz.func4,Tryz.ntmps4
 go_wp2
 go_ret
 exact⟨rfl,by exact .refl _⟩
set_option maxRecDepth 100000 in
set_option maxHeartbeats 8000000 in
theorem fnHouseStay_o (p0:Option Addr)(n0 cap0:Nat)(w:World)(hn:(n0:Int)≤1048576)(HE:Hid (Env w))
  (HD:Calls Tryz.prog 21 #[.slice p0 n0 cap0] w (DrewCar w)):
  Calls Tryz.prog 4 #[.slice p0 n0 cap0] w fun e w'=>e= .returned (.bool true)∧Ext w w':=by
 unfold DrewCar at HD
 have HD:=Lib.hid HD
 have hd0:decide ((1048576:Int)<(n0:Int))=false:=by simp;omega
 have hd1:decide (1048576<n0)=false:=by simp;omega
 go_enter Tryz.func4,Tryz.ntmps4
 go_wp2_with fail
 refine HD.out.mono ?_
 rintro e w1 ⟨h,p,cap,q,c2,id,rfl,hs1,hs2,hi,hx1⟩
 have HI:=Lib.hid hi
 have hX1:=Lib.hid hx1
 clear hi HD hx1
 have HSi:=Lib.hid fun(w':World) (hx:Ext w1 w')=>implHst h id p _ cap q _ c2 w' (HI.out.ext hx)
 have HSs:=Lib.hid fun(w':World) (hx:Ext w1 w')=>specHst h id p _ cap q _ c2 w' (HI.out.ext hx)
 have HVa:=Lib.hid fun(w':World) (hx:Ext w1 w')=>specHouse h p _ cap q _ c2 w' (HI.out.ext hx)
 have HFi:=Lib.hid fun(w':World) (hx:Ext w1 w')=>implHfind h.wide h.deep id p _ cap h.cells w' (HI.out.cells.ext hx)
 unfold stayR at HSi HSs
 have hlaw:=stay_law h id
 rcases hlaw with⟨l1,l2⟩|⟨l1,l2,l3⟩|⟨a1,a2,a3,l1,l2,l3,l4,l5⟩
 ·skip
  rw[l1]at HVa
  rw[l2]at HSi HSs
  clear l1 l2
  go_wp2_with fail
  refine(HSi.out _ (((Mem.start w1).blkNew TH10 #[.int .i64 h.wide,.int .i64 h.deep,.slice p h.cells.length cap,.int .i64 h.free,.int .i64 h.step,.int .i64 h.price,.int .i64 h.capp,.int .i64 h.clock,.int .i64 h.bank,.slice q h.vs.length c2] (w1.heap.size) (by simp))).ext).mono ?_
  rintro e w2 ⟨rfl,hx2⟩
  have M2:=Lib.hid ((((Mem.start w1).blkNew TH10 #[.int .i64 h.wide,.int .i64 h.deep,.slice p h.cells.length cap,.int .i64 h.free,.int .i64 h.step,.int .i64 h.price,.int .i64 h.capp,.int .i64 h.clock,.int .i64 h.bank,.slice q h.vs.length c2] (w1.heap.size) (by simp))).adv hx2)
  have lt2_0:w1.heap.size<w2.heap.size:=(M2.out.lt (i:=0) rfl rfl).2
  clear hx2
  obtain⟨ce0,ce1,ce2,ce3,ce4,ce5,ce6,ce7,ce8,ce9⟩:=(M2.out.blk (i:=0) rfl).ten
  go_wp2_with fail
  clear ce0 ce1 ce2 ce3 ce4 ce5 ce6 ce7 ce8 ce9
  refine(HSs.out _ (((M2.out).blkNew TS3 #[.int .i64 0,.int .i64 0,.int .i64 0] (w2.heap.size) (by simp))).ext).mono ?_
  rintro e w3 ⟨rfl,hx3⟩
  have M3:=Lib.hid ((((M2.out).blkNew TS3 #[.int .i64 0,.int .i64 0,.int .i64 0] (w2.heap.size) (by simp))).adv hx3)
  clear M2
  clear lt2_0
  have lt3_0:w2.heap.size<w3.heap.size:=(M3.out.lt (i:=0) rfl rfl).2
  have lt3_1:w1.heap.size<w3.heap.size:=(M3.out.lt (i:=1) rfl rfl).2
  clear hx3
  obtain⟨ce0,ce1,ce2,ce3,ce4,ce5,ce6,ce7,ce8,ce9⟩:=(M3.out.blk (i:=1) rfl).ten
  obtain⟨st0,st1,st2⟩:=(M3.out.blk (i:=0) rfl).tri
  go_wp2_with fail
  clear ce0 ce1 ce2 ce3 ce4 ce5 ce6 ce7 ce8 ce9 st0 st1 st2
  refine(HVa.out _ (((M3.out).blkNew TS3 #[.int .i64 0,.int .i64 0,.int .i64 0] (w3.heap.size) (by simp))).ext).mono ?_
  rintro e w4 ⟨rfl,hx4⟩
  have M4:=Lib.hid ((((M3.out).blkNew TS3 #[.int .i64 0,.int .i64 0,.int .i64 0] (w3.heap.size) (by simp))).adv hx4)
  clear M3
  clear lt3_0 lt3_1
  have lt4_0:w3.heap.size<w4.heap.size:=(M4.out.lt (i:=0) rfl rfl).2
  have lt4_1:w2.heap.size<w4.heap.size:=(M4.out.lt (i:=1) rfl rfl).2
  have lt4_2:w1.heap.size<w4.heap.size:=(M4.out.lt (i:=2) rfl rfl).2
  clear hx4
  go_wp2_with fail
  refine(alive_any _ (HE.out.ext (hX1.out.trans (M4.out).ext))).mono ?_
  rintro e wz ⟨rfl,hxz⟩
  have XZ:Ext w wz:=hX1.out.trans ((M4.out).ext.trans hxz)
  go_wp2
  go_ret
  exact⟨rfl,XZ⟩
 ·skip
  rw[l1]at HVa
  rw[l2]at HSi HSs
  obtain⟨fi,hfi⟩: ∃f,hallFind h.wide h.deep h.cells id=f:=⟨_,rfl⟩
  rw[hfi]at HFi l3
  clear hfi
  clear l1 l2
  go_wp2_with fail
  refine(HSi.out _ (((Mem.start w1).blkNew TH10 #[.int .i64 h.wide,.int .i64 h.deep,.slice p h.cells.length cap,.int .i64 h.free,.int .i64 h.step,.int .i64 h.price,.int .i64 h.capp,.int .i64 h.clock,.int .i64 h.bank,.slice q h.vs.length c2] (w1.heap.size) (by simp))).ext).mono ?_
  rintro e w2 ⟨rfl,hx2⟩
  have M2:=Lib.hid ((((Mem.start w1).blkNew TH10 #[.int .i64 h.wide,.int .i64 h.deep,.slice p h.cells.length cap,.int .i64 h.free,.int .i64 h.step,.int .i64 h.price,.int .i64 h.capp,.int .i64 h.clock,.int .i64 h.bank,.slice q h.vs.length c2] (w1.heap.size) (by simp))).adv hx2)
  have lt2_0:w1.heap.size<w2.heap.size:=(M2.out.lt (i:=0) rfl rfl).2
  clear hx2
  obtain⟨ce0,ce1,ce2,ce3,ce4,ce5,ce6,ce7,ce8,ce9⟩:=(M2.out.blk (i:=0) rfl).ten
  go_wp2_with fail
  clear ce0 ce1 ce2 ce3 ce4 ce5 ce6 ce7 ce8 ce9
  refine(HSs.out _ (((M2.out).blkNew TS3 #[.int .i64 0,.int .i64 0,.int .i64 0] (w2.heap.size) (by simp))).ext).mono ?_
  rintro e w3 ⟨rfl,hx3⟩
  have M3:=Lib.hid ((((M2.out).blkNew TS3 #[.int .i64 0,.int .i64 0,.int .i64 0] (w2.heap.size) (by simp))).adv hx3)
  clear M2
  clear lt2_0
  have lt3_0:w2.heap.size<w3.heap.size:=(M3.out.lt (i:=0) rfl rfl).2
  have lt3_1:w1.heap.size<w3.heap.size:=(M3.out.lt (i:=1) rfl rfl).2
  clear hx3
  obtain⟨ce0,ce1,ce2,ce3,ce4,ce5,ce6,ce7,ce8,ce9⟩:=(M3.out.blk (i:=1) rfl).ten
  obtain⟨st0,st1,st2⟩:=(M3.out.blk (i:=0) rfl).tri
  go_wp2_with fail
  clear ce0 ce1 ce2 ce3 ce4 ce5 ce6 ce7 ce8 ce9 st0 st1 st2
  refine(HVa.out _ (((M3.out).blkNew TS3 #[.int .i64 0,.int .i64 0,.int .i64 0] (w3.heap.size) (by simp))).ext).mono ?_
  rintro e w4 ⟨rfl,hx4⟩
  have M4:=Lib.hid ((((M3.out).blkNew TS3 #[.int .i64 0,.int .i64 0,.int .i64 0] (w3.heap.size) (by simp))).adv hx4)
  clear M3
  clear lt3_0 lt3_1
  have lt4_0:w3.heap.size<w4.heap.size:=(M4.out.lt (i:=0) rfl rfl).2
  have lt4_1:w2.heap.size<w4.heap.size:=(M4.out.lt (i:=1) rfl rfl).2
  have lt4_2:w1.heap.size<w4.heap.size:=(M4.out.lt (i:=2) rfl rfl).2
  clear hx4
  obtain⟨ce0,ce1,ce2,ce3,ce4,ce5,ce6,ce7,ce8,ce9⟩:=(M4.out.blk (i:=2) rfl).ten
  subst l3
  go_wp2_with fail
  clear ce0 ce1 ce2 ce3 ce4 ce5 ce6 ce7 ce8 ce9
  refine(HFi.out _ (M4.out).ext).mono ?_
  rintro e w5 ⟨rfl,hx5⟩
  have M5:=Lib.hid ((M4.out).adv hx5)
  clear M4
  clear lt4_0 lt4_1 lt4_2
  have lt5_0:w3.heap.size<w5.heap.size:=(M5.out.lt (i:=0) rfl rfl).2
  have lt5_1:w2.heap.size<w5.heap.size:=(M5.out.lt (i:=1) rfl rfl).2
  have lt5_2:w1.heap.size<w5.heap.size:=(M5.out.lt (i:=2) rfl rfl).2
  clear hx5
  obtain⟨st0,st1,st2⟩:=(M5.out.blk (i:=1) rfl).tri
  obtain⟨ce0,ce1,ce2,ce3,ce4,ce5,ce6,ce7,ce8,ce9⟩:=(M5.out.blk (i:=2) rfl).ten
  have XZ:Ext w w5:=hX1.out.trans (M5.out).ext
  go_wp2
  go_ret
  exact⟨rfl,XZ⟩
 ·skip
  rw[l1]at HVa
  rw[l2]at HSi HSs
  obtain⟨fi,hfi⟩: ∃f,hallFind h.wide h.deep h.cells id=f:=⟨_,rfl⟩
  rw[hfi]at HFi l3
  clear hfi
  have HSv:=Lib.hid fun w'=>implSv a1 a2 a3 w'
  rw[l4]at HSv
  clear l4
  clear l1 l2
  go_wp2_with fail
  refine(HSi.out _ (((Mem.start w1).blkNew TH10 #[.int .i64 h.wide,.int .i64 h.deep,.slice p h.cells.length cap,.int .i64 h.free,.int .i64 h.step,.int .i64 h.price,.int .i64 h.capp,.int .i64 h.clock,.int .i64 h.bank,.slice q h.vs.length c2] (w1.heap.size) (by simp))).ext).mono ?_
  rintro e w2 ⟨rfl,hx2⟩
  have M2:=Lib.hid ((((Mem.start w1).blkNew TH10 #[.int .i64 h.wide,.int .i64 h.deep,.slice p h.cells.length cap,.int .i64 h.free,.int .i64 h.step,.int .i64 h.price,.int .i64 h.capp,.int .i64 h.clock,.int .i64 h.bank,.slice q h.vs.length c2] (w1.heap.size) (by simp))).adv hx2)
  have lt2_0:w1.heap.size<w2.heap.size:=(M2.out.lt (i:=0) rfl rfl).2
  clear hx2
  obtain⟨ce0,ce1,ce2,ce3,ce4,ce5,ce6,ce7,ce8,ce9⟩:=(M2.out.blk (i:=0) rfl).ten
  go_wp2_with fail
  clear ce0 ce1 ce2 ce3 ce4 ce5 ce6 ce7 ce8 ce9
  refine(HSs.out _ (((M2.out).blkNew TS3 #[.int .i64 a1,.int .i64 a2,.int .i64 a3] (w2.heap.size) (by simp))).ext).mono ?_
  rintro e w3 ⟨rfl,hx3⟩
  have M3:=Lib.hid ((((M2.out).blkNew TS3 #[.int .i64 a1,.int .i64 a2,.int .i64 a3] (w2.heap.size) (by simp))).adv hx3)
  clear M2
  clear lt2_0
  have lt3_0:w2.heap.size<w3.heap.size:=(M3.out.lt (i:=0) rfl rfl).2
  have lt3_1:w1.heap.size<w3.heap.size:=(M3.out.lt (i:=1) rfl rfl).2
  clear hx3
  obtain⟨ce0,ce1,ce2,ce3,ce4,ce5,ce6,ce7,ce8,ce9⟩:=(M3.out.blk (i:=1) rfl).ten
  obtain⟨st0,st1,st2⟩:=(M3.out.blk (i:=0) rfl).tri
  go_wp2_with fail
  clear ce0 ce1 ce2 ce3 ce4 ce5 ce6 ce7 ce8 ce9 st0 st1 st2
  refine(HVa.out _ (((M3.out).blkNew TS3 #[.int .i64 a1,.int .i64 a2,.int .i64 a3] (w3.heap.size) (by simp))).ext).mono ?_
  rintro e w4 ⟨rfl,hx4⟩
  have M4:=Lib.hid ((((M3.out).blkNew TS3 #[.int .i64 a1,.int .i64 a2,.int .i64 a3] (w3.heap.size) (by simp))).adv hx4)
  clear M3
  clear lt3_0 lt3_1
  have lt4_0:w3.heap.size<w4.heap.size:=(M4.out.lt (i:=0) rfl rfl).2
  have lt4_1:w2.heap.size<w4.heap.size:=(M4.out.lt (i:=1) rfl rfl).2
  have lt4_2:w1.heap.size<w4.heap.size:=(M4.out.lt (i:=2) rfl rfl).2
  clear hx4
  obtain⟨ce0,ce1,ce2,ce3,ce4,ce5,ce6,ce7,ce8,ce9⟩:=(M4.out.blk (i:=2) rfl).ten
  have e1:decide (0≤fi)=true:=by simp;omega
  have e2:decide (a1≤h.clock)=true:=by simp;omega
  go_wp2_with fail
  clear ce0 ce1 ce2 ce3 ce4 ce5 ce6 ce7 ce8 ce9
  refine(HFi.out _ (M4.out).ext).mono ?_
  rintro e w5 ⟨rfl,hx5⟩
  have M5:=Lib.hid ((M4.out).adv hx5)
  clear M4
  clear lt4_0 lt4_1 lt4_2
  have lt5_0:w3.heap.size<w5.heap.size:=(M5.out.lt (i:=0) rfl rfl).2
  have lt5_1:w2.heap.size<w5.heap.size:=(M5.out.lt (i:=1) rfl rfl).2
  have lt5_2:w1.heap.size<w5.heap.size:=(M5.out.lt (i:=2) rfl rfl).2
  clear hx5
  obtain⟨st0,st1,st2⟩:=(M5.out.blk (i:=1) rfl).tri
  obtain⟨ce0,ce1,ce2,ce3,ce4,ce5,ce6,ce7,ce8,ce9⟩:=(M5.out.blk (i:=2) rfl).ten
  go_wp2_with fail
  clear st0 st1 st2 ce0 ce1 ce2 ce3 ce4 ce5 ce6 ce7 ce8 ce9
  refine(HSv.out _).mono ?_
  rintro e w6 ⟨rfl,hx6⟩
  have M6:=Lib.hid ((M5.out).adv hx6)
  clear M5
  clear lt5_0 lt5_1 lt5_2
  have lt6_0:w3.heap.size<w6.heap.size:=(M6.out.lt (i:=0) rfl rfl).2
  have lt6_1:w2.heap.size<w6.heap.size:=(M6.out.lt (i:=1) rfl rfl).2
  have lt6_2:w1.heap.size<w6.heap.size:=(M6.out.lt (i:=2) rfl rfl).2
  clear hx6
  obtain⟨st0,st1,st2⟩:=(M6.out.blk (i:=1) rfl).tri
  obtain⟨ce0,ce1,ce2,ce3,ce4,ce5,ce6,ce7,ce8,ce9⟩:=(M6.out.blk (i:=2) rfl).ten
  have XZ:Ext w w6:=hX1.out.trans (M6.out).ext
  go_wp2
  go_ret
  exact⟨rfl,XZ⟩
theorem walk_FnHouseStay (W:World)(v:Value)(u:Unit)(hc:Code W v)(hE:Env W):Calls Tryz.prog 4 #[v] W fun e w'=>e= .returned (.bool true)∧Ext W w':=by
 have hD:=drawHouseStay v W hc
 obtain⟨p0,n,cap,bs,rfl,h,hb⟩:=hc
 by_cases hn:(n:Int)≤1048576
 ·exact fnHouseStay_o p0 n cap W hn (Lib.hid hE) hD
 ·exact fnHouseStay_big p0 n cap W (by omega)
end Go.Proofs.YteejdnmmpmcmeaaGreatDoor
