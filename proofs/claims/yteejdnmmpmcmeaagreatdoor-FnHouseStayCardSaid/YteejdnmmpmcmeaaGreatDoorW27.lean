/-
  A law's walk or frame (@packed).
-/
import Derived.Test.YteejdnmmpmcmeaaGreatDoorK4
import Derived.Test.YteejdnmmpmcmeaaGreatDoorK7
import Derived.Test.YteejdnmmpmcmeaaGreatDoorK24
import Derived.Test.YteejdnmmpmcmeaaGreatDoorK33
namespace Go.Proofs.YteejdnmmpmcmeaaGreatDoor
open Go.RowKit
set_option linter.unusedVariables false
set_option linter.unusedSimpArgs false
theorem stay_some {h:HouseD}{id a1 a2 a3:Int}(e:houseStay h id=some (a1,a2,a3)):houseOk h=true∧tariffOk h.free h.step h.price h.capp=true∧(0≤h.clock∧h.clock≤9999)∧stayOk a1 a2 a3=true∧a3≤h.clock∧ ∃v,visitAt id h.vs=some v∧v.2=(a1,a2,a3):=by
 unfold houseStay at e
 split at e
 ·rename_i hok
  obtain⟨q1,q2,q3,q4,q5⟩:=(house_iff h).1 hok
  cases hv:visitAt id h.vs with
  |none=>rw[hv]at e;cases e
  |some v=>
   rw[hv]at e
   injection e with e
   obtain⟨v1,v2,v3,v4,v5,v6⟩:=visitAt_any hv
   obtain⟨s1,s2⟩:=(visit_iff _ _).1 (q5 v (List.mem_of_getElem? v3))
   replace e:v.2=(a1,a2,a3):=e
   rw[e]at s1 s2
   exact⟨hok,q2,⟨q3.1,q3.2.1⟩,s1,s2,v,rfl,e⟩
 ·cases e
theorem due_law (h:HouseD)(id:Int):(houseStay h id=none∧houseDue h id= -1)∨ ∃a1 a2 a3,houseStay h id=some (a1,a2,a3)∧tariffOk h.free h.step h.price h.capp=true∧(0≤h.clock∧h.clock≤9999)∧stayOk a1 a2 a3=true∧a3≤h.clock∧houseDue h id=max (feeOf h.free h.step h.price h.capp (h.clock-a1)-a2) 0:=by
 unfold houseDue
 cases hs:houseStay h id with
 |none=>exact .inl ⟨rfl,rfl⟩
 |some s=>
  obtain⟨a1,a2,a3⟩:=s
  obtain⟨b0,b1,b2,b3,b4,_⟩:=stay_some hs
  refine .inr ⟨a1,a2,a3,rfl,b1,b2,b3,b4,?_⟩
  dsimp only
  unfold stayDue
  rw[if_pos (by simp[b1,b3,b4,b2.2])]
set_option maxRecDepth 100000 in
set_option maxHeartbeats 8000000 in
theorem fnHouseDue_big (p:Option Addr)(n cap:Nat)(w:World)(h:(1048576:Int)<n):
  Calls Tryz.prog 5 #[.slice p n cap] w fun e w'=>e= .returned (.bool true)∧Ext w w':=by
 go_enter Tryz.func5,Tryz.ntmps5
 go_wp2
 go_ret
 exact⟨rfl,by(repeat' (first|exact Ext.refl _|(with_reducible assumption)|(with_reducible refine Ext.alloc ?_ _)|(with_reducible refine Ext.setCell ?_ (by first|exact Nat.le_refl _|(dsimp only;omega)|(simp;done)|(simp;omega)) _)|(with_reducible refine Ext.drew ?_)|(with_reducible refine Ext.drewN ?_ _)|(refine Ext.trans ?_ (by with_reducible assumption))))⟩
set_option maxRecDepth 100000 in
set_option maxHeartbeats 8000000 in
theorem fnHouseDue_o (p0:Option Addr)(n0 cap0:Nat)(w:World)(hn:(n0:Int)≤1048576)(HE:Hid (Env w))
  (HD:Calls Tryz.prog 25 #[.slice p0 n0 cap0] w (DrewCar w)):
  Calls Tryz.prog 5 #[.slice p0 n0 cap0] w fun e w'=>e= .returned (.bool true)∧Ext w w':=by
 unfold DrewCar at HD
 have HD:=Lib.hid HD
 have hd0:decide ((1048576:Int)<(n0:Int))=false:=by simp;omega
 have hd1:decide (1048576<n0)=false:=by simp;omega
 go_enter Tryz.func5,Tryz.ntmps5
 go_wp2_with fail
 refine HD.out.mono ?_
 rintro e w1 ⟨h,p,cap,q,c2,id,rfl,hs1,hs2,hi,hx1⟩
 have HI:=Lib.hid hi
 have hX1:=Lib.hid hx1
 clear hi HD hx1
 have HDi:=Lib.hid fun(w':World) (hx:Ext w1 w')=>implHouseDue h id p _ cap q _ c2 w' (HI.out.ext hx)
 have HDs:=Lib.hid fun(w':World) (hx:Ext w1 w')=>specHouseDue h id p _ cap q _ c2 w' (HI.out.ext hx)
 have HSt:=Lib.hid fun(w':World) (hx:Ext w1 w')=>implHst h id p _ cap q _ c2 w' (HI.out.ext hx)
 have hlaw:=due_law h id
 obtain⟨x,hx⟩: ∃d,houseDue h id=d:=⟨_,rfl⟩
 rw[hx]at HDi HDs hlaw
 clear hx
 unfold stayR at HSt
 go_wp2_with fail
 refine(HDi.out _ (((Mem.start w1).blkNew TH10 #[.int .i64 h.wide,.int .i64 h.deep,.slice p h.cells.length cap,.int .i64 h.free,.int .i64 h.step,.int .i64 h.price,.int .i64 h.capp,.int .i64 h.clock,.int .i64 h.bank,.slice q h.vs.length c2] (w1.heap.size) (by simp))).ext).mono ?_
 rintro e w2 ⟨rfl,hx2⟩
 have M2:=Lib.hid ((((Mem.start w1).blkNew TH10 #[.int .i64 h.wide,.int .i64 h.deep,.slice p h.cells.length cap,.int .i64 h.free,.int .i64 h.step,.int .i64 h.price,.int .i64 h.capp,.int .i64 h.clock,.int .i64 h.bank,.slice q h.vs.length c2] (w1.heap.size) (by simp))).adv hx2)
 have lt2_0:w1.heap.size<w2.heap.size:=(M2.out.lt (i:=0) rfl rfl).2
 clear hx2
 clear HDi
 obtain⟨ce0,ce1,ce2,ce3,ce4,ce5,ce6,ce7,ce8,ce9⟩:=(M2.out.blk (i:=0) rfl).ten
 go_wp2_with fail
 clear ce0 ce1 ce2 ce3 ce4 ce5 ce6 ce7 ce8 ce9
 refine(HDs.out _ (M2.out).ext).mono ?_
 rintro e w3 ⟨rfl,hx3⟩
 have M3:=Lib.hid ((M2.out).adv hx3)
 clear M2
 clear lt2_0
 have lt3_0:w1.heap.size<w3.heap.size:=(M3.out.lt (i:=0) rfl rfl).2
 clear hx3
 clear HDs
 rcases hlaw with⟨l1,rfl⟩|⟨a1,a2,a3,l1,l2,l3,l4,l5,l6⟩
 ·skip
  clear l1
  go_wp2_with fail
  refine(alive_any _ (HE.out.ext (hX1.out.trans (M3.out).ext))).mono ?_
  rintro e w9 ⟨rfl,hx9⟩
  have X9:Ext w w9:=hX1.out.trans ((M3.out).ext.trans hx9)
  go_wp2
  go_ret
  exact⟨rfl,X9⟩
 ·skip
  rw[l1]at HSt
  obtain⟨t1,t2,t3,t4,t5,t6⟩:=stay_parts l4
  obtain⟨cost,hcost⟩: ∃c,feeOf h.free h.step h.price h.capp (h.clock-a1)=c:=⟨_,rfl⟩
  have hf:=feeOf_le (pd:=a2) (a:=a3) (now:=h.clock) l2 t1 (by omega) l3.2
  have HFe:=Lib.hid fun w'=>implFo h.free h.step h.price h.capp (h.clock-a1) w' l2 (by omega) (by omega)
  rw[hcost]at HFe l6 hf
  have L6:=Lib.hid l6
  have hx0:0≤x:=by omega
  clear hcost l1 l2 l4 l6
  have e0:decide (x<0)=false:=by simp;omega
  obtain⟨ce0,ce1,ce2,ce3,ce4,ce5,ce6,ce7,ce8,ce9⟩:=(M3.out.blk (i:=0) rfl).ten
  go_wp2_with fail
  clear ce0 ce1 ce2 ce3 ce4 ce5 ce6 ce7 ce8 ce9 e0
  refine(HSt.out _ (M3.out).ext).mono ?_
  rintro e w4 ⟨rfl,hx4⟩
  have M4:=Lib.hid ((M3.out).adv hx4)
  clear M3
  clear lt3_0
  have lt4_0:w1.heap.size<w4.heap.size:=(M4.out.lt (i:=0) rfl rfl).2
  clear hx4
  clear HSt
  have i1:IntKind.i64.wrap (h.clock-a1)=h.clock-a1:=IntWalk.i64_in _ (by omega)
  obtain⟨ce0,ce1,ce2,ce3,ce4,ce5,ce6,ce7,ce8,ce9⟩:=(M4.out.blk (i:=0) rfl).ten
  go_upto_region 10 with fail
  have M5:=Lib.hid (((M4.out).blkNew TS3 #[.int .i64 a1,.int .i64 a2,.int .i64 a3] (w4.heap.size) (by simp)))
  generalize (w4.alloc (.cells #[.int .i64 a1,.int .i64 a2,.int .i64 a3] TS3))=w5 at M5⊢
  clear M4
  clear lt4_0
  have lt5_0:w4.heap.size<w5.heap.size:=(M5.out.lt (i:=0) rfl rfl).2
  have lt5_1:w1.heap.size<w5.heap.size:=(M5.out.lt (i:=1) rfl rfl).2
  clear ce0 ce1 ce2 ce3 ce4 ce5 ce6 ce7 ce8 ce9
  obtain⟨ce0,ce1,ce2,ce3,ce4,ce5,ce6,ce7,ce8,ce9⟩:=(M5.out.blk (i:=1) rfl).ten
  obtain⟨st0,st1,st2⟩:=(M5.out.blk (i:=0) rfl).tri
  go_wp2_with fail
  clear ce0 ce1 ce2 ce3 ce4 ce5 ce6 ce7 ce8 ce9 st0 st1 st2 i1
  refine(HFe.out _).mono ?_
  rintro e w6 ⟨rfl,hx6⟩
  have M6:=Lib.hid ((M5.out).adv hx6)
  clear M5
  clear lt5_0 lt5_1
  have lt6_0:w4.heap.size<w6.heap.size:=(M6.out.lt (i:=0) rfl rfl).2
  have lt6_1:w1.heap.size<w6.heap.size:=(M6.out.lt (i:=1) rfl rfl).2
  clear hx6
  clear HFe
  obtain⟨st0,st1,st2⟩:=(M6.out.blk (i:=0) rfl).tri
  have i2:IntKind.i64.wrap (x+a2)=x+a2:=IntWalk.i64_in _ (by have:=L6.out;omega)
  have e1:decide (cost≤x+a2)=true:=by have:=L6.out;simp;omega
  have X6:Ext w w6:=hX1.out.trans M6.out.ext
  by_cases x0:x=0
  ·have e4:decide (cost≤a2)=true:=by have:=L6.out;simp;omega
   have i3:IntKind.i64.wrap a2=a2:=IntWalk.i64_in _ (by omega)
   subst x0
   go_wp2
   go_ret
   exact⟨rfl,X6⟩
  ·have e2:(x==0)=false:=by simp[x0]
   have e3:(x+a2==cost)=true:=by have:=L6.out;simp;omega
   go_wp2
   go_ret
   exact⟨rfl,X6⟩
theorem walk_FnHouseDue (W:World)(v:Value)(u:Unit)(hc:Code W v)(hE:Env W):Calls Tryz.prog 5 #[v] W fun e w'=>e= .returned (.bool true)∧Ext W w':=by
 have hD:=drawHouseDue v W hc
 obtain⟨p0,n,cap,bs,rfl,h,hb⟩:=hc
 by_cases hn:(n:Int)≤1048576
 ·exact fnHouseDue_o p0 n cap W hn (Lib.hid hE) hD
 ·exact fnHouseDue_big p0 n cap W (by omega)
end Go.Proofs.YteejdnmmpmcmeaaGreatDoor
