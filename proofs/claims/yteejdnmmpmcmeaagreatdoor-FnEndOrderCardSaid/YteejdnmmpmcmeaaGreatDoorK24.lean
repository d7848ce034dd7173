/-
  Texts of this proof, packed (@packed).
-/
import Derived.Test.YteejdnmmpmcmeaaGreatDoorK4
import Derived.Test.YteejdnmmpmcmeaaGreatDoorK22
import Derived.Test.YteejdnmmpmcmeaaGreatDoorK23
namespace Go.Proofs.YteejdnmmpmcmeaaGreatDoor
open Go.RowKit
set_option linter.unusedVariables false
set_option linter.unusedSimpArgs false
set_option maxRecDepth 100000 in
set_option maxHeartbeats 1000000 in
theorem implHd_no (wide deep free step price capp clock bank id:Int)(p:Option Addr)(n cap:Nat)(q:Option Addr)(m c2:Nat)(w:World)
  (HST:Hid (∀w',Ext w w'→Calls Tryz.prog 22 #[.agg #[.int .i64 wide,.int .i64 deep,.slice p n cap,.int .i64 free,.int .i64 step,.int .i64 price,.int .i64 capp,.int .i64 clock,.int .i64 bank,.slice q m c2],.int .i64 id] w' fun e w''=>e= .returned (.tuple #[.agg #[.int .i64 0,.int .i64 0,.int .i64 0],.bool false])∧Ext w' w'')):
  Calls Tryz.prog 26 #[.agg #[.int .i64 wide,.int .i64 deep,.slice p n cap,.int .i64 free,.int .i64 step,.int .i64 price,.int .i64 capp,.int .i64 clock,.int .i64 bank,.slice q m c2],.int .i64 id] w fun e w'=>e= .returned (.int .i64 (-1))∧Ext w w':=by
 go_enter Tryz.func26,Tryz.ntmps26
 go_wp2_with fail
 refine(HST.out _ (by exact .alloc (.refl _) _)).mono ?_
 rintro e w1 ⟨rfl,hh1⟩
 have BA1:Blk w1 w.heap.size 30 #[.int .i64 wide,.int .i64 deep,.slice p n cap,.int .i64 free,.int .i64 step,.int .i64 price,.int .i64 capp,.int .i64 clock,.int .i64 bank,.slice q m c2]:=(Blk.new w _ _).ext hh1
 have X1:Ext w w1:=((Ext.refl w).alloc _).trans hh1
 have s1:w.heap.size<w1.heap.size:=BA1.lt
 replace BA1:=Lib.hid BA1
 clear hh1
 obtain⟨e1_0,e1_1,e1_2,e1_3,e1_4,e1_5,e1_6,e1_7,e1_8,e1_9⟩:=(BA1.out).ten
 go_wp2
 go_ret
 exact⟨rfl,by exact .alloc X1 _⟩
set_option maxRecDepth 100000 in
set_option maxHeartbeats 1000000 in
theorem implHd_yes (wide deep free step price capp clock bank id:Int)(p:Option Addr)(n cap:Nat)(q:Option Addr)(m c2:Nat)(w:World)(a1 a2 a3:Int)(D:Int)
  (HST:Hid (∀w',Ext w w'→Calls Tryz.prog 22 #[.agg #[.int .i64 wide,.int .i64 deep,.slice p n cap,.int .i64 free,.int .i64 step,.int .i64 price,.int .i64 capp,.int .i64 clock,.int .i64 bank,.slice q m c2],.int .i64 id] w' fun e w''=>e= .returned (.tuple #[.agg #[.int .i64 a1,.int .i64 a2,.int .i64 a3],.bool true])∧Ext w' w''))
  (HD:Hid (∀w',Calls Tryz.prog 74 #[tariffV free step price capp,stayV a1 a2 a3,.int .i64 clock] w' fun e w''=>e= .returned (.int .i64 D)∧Ext w' w'')):
  Calls Tryz.prog 26 #[.agg #[.int .i64 wide,.int .i64 deep,.slice p n cap,.int .i64 free,.int .i64 step,.int .i64 price,.int .i64 capp,.int .i64 clock,.int .i64 bank,.slice q m c2],.int .i64 id] w fun e w'=>e= .returned (.int .i64 D)∧Ext w w':=by
 go_enter Tryz.func26,Tryz.ntmps26
 go_wp2_with fail
 refine(HST.out _ (by exact .alloc (.refl _) _)).mono ?_
 rintro e w1 ⟨rfl,hh1⟩
 have BA1:Blk w1 w.heap.size 30 #[.int .i64 wide,.int .i64 deep,.slice p n cap,.int .i64 free,.int .i64 step,.int .i64 price,.int .i64 capp,.int .i64 clock,.int .i64 bank,.slice q m c2]:=(Blk.new w _ _).ext hh1
 have X1:Ext w w1:=((Ext.refl w).alloc _).trans hh1
 have s1:w.heap.size<w1.heap.size:=BA1.lt
 replace BA1:=Lib.hid BA1
 clear hh1
 obtain⟨e1_0,e1_1,e1_2,e1_3,e1_4,e1_5,e1_6,e1_7,e1_8,e1_9⟩:=(BA1.out).ten
 go_wp2_with fail
 refine(HD.out _).mono ?_
 rintro e w2 ⟨rfl,hh2⟩
 go_wp2
 go_ret
 exact⟨rfl,by exact .trans (.alloc X1 _) hh2⟩
set_option maxRecDepth 100000 in
set_option maxHeartbeats 1000000 in
theorem implHm_no (wide deep free step price capp clock bank id:Int)(p:Option Addr)(n cap:Nat)(q:Option Addr)(m c2:Nat)(w:World)
  (HST:Hid (∀w',Ext w w'→Calls Tryz.prog 22 #[.agg #[.int .i64 wide,.int .i64 deep,.slice p n cap,.int .i64 free,.int .i64 step,.int .i64 price,.int .i64 capp,.int .i64 clock,.int .i64 bank,.slice q m c2],.int .i64 id] w' fun e w''=>e= .returned (.tuple #[.agg #[.int .i64 0,.int .i64 0,.int .i64 0],.bool false])∧Ext w' w'')):
  Calls Tryz.prog 30 #[.agg #[.int .i64 wide,.int .i64 deep,.slice p n cap,.int .i64 free,.int .i64 step,.int .i64 price,.int .i64 capp,.int .i64 clock,.int .i64 bank,.slice q m c2],.int .i64 id] w fun e w'=>e= .returned (.bool false)∧Ext w w':=by
 go_enter Tryz.func30,Tryz.ntmps30
 go_wp2_with fail
 refine(HST.out _ (by exact .alloc (.refl _) _)).mono ?_
 rintro e w1 ⟨rfl,hh1⟩
 have BA1:Blk w1 w.heap.size 30 #[.int .i64 wide,.int .i64 deep,.slice p n cap,.int .i64 free,.int .i64 step,.int .i64 price,.int .i64 capp,.int .i64 clock,.int .i64 bank,.slice q m c2]:=(Blk.new w _ _).ext hh1
 have X1:Ext w w1:=((Ext.refl w).alloc _).trans hh1
 have s1:w.heap.size<w1.heap.size:=BA1.lt
 replace BA1:=Lib.hid BA1
 clear hh1
 obtain⟨e1_0,e1_1,e1_2,e1_3,e1_4,e1_5,e1_6,e1_7,e1_8,e1_9⟩:=(BA1.out).ten
 go_wp2
 go_ret
 exact⟨rfl,by exact .alloc X1 _⟩
set_option maxRecDepth 100000 in
set_option maxHeartbeats 1000000 in
theorem implHm_yes (wide deep free step price capp clock bank id:Int)(p:Option Addr)(n cap:Nat)(q:Option Addr)(m c2:Nat)(w:World)(a1 a2 a3:Int)(D:Bool)
  (HST:Hid (∀w',Ext w w'→Calls Tryz.prog 22 #[.agg #[.int .i64 wide,.int .i64 deep,.slice p n cap,.int .i64 free,.int .i64 step,.int .i64 price,.int .i64 capp,.int .i64 clock,.int .i64 bank,.slice q m c2],.int .i64 id] w' fun e w''=>e= .returned (.tuple #[.agg #[.int .i64 a1,.int .i64 a2,.int .i64 a3],.bool true])∧Ext w' w''))
  (HD:Hid (∀w',Calls Tryz.prog 77 #[tariffV free step price capp,stayV a1 a2 a3,.int .i64 clock] w' fun e w''=>e= .returned (.bool D)∧Ext w' w'')):
  Calls Tryz.prog 30 #[.agg #[.int .i64 wide,.int .i64 deep,.slice p n cap,.int .i64 free,.int .i64 step,.int .i64 price,.int .i64 capp,.int .i64 clock,.int .i64 bank,.slice q m c2],.int .i64 id] w fun e w'=>e= .returned (.bool D)∧Ext w w':=by
 go_enter Tryz.func30,Tryz.ntmps30
 go_wp2_with fail
 refine(HST.out _ (by exact .alloc (.refl _) _)).mono ?_
 rintro e w1 ⟨rfl,hh1⟩
 have BA1:Blk w1 w.heap.size 30 #[.int .i64 wide,.int .i64 deep,.slice p n cap,.int .i64 free,.int .i64 step,.int .i64 price,.int .i64 capp,.int .i64 clock,.int .i64 bank,.slice q m c2]:=(Blk.new w _ _).ext hh1
 have X1:Ext w w1:=((Ext.refl w).alloc _).trans hh1
 have s1:w.heap.size<w1.heap.size:=BA1.lt
 replace BA1:=Lib.hid BA1
 clear hh1
 obtain⟨e1_0,e1_1,e1_2,e1_3,e1_4,e1_5,e1_6,e1_7,e1_8,e1_9⟩:=(BA1.out).ten
 go_wp2_with fail
 refine(HD.out _).mono ?_
 rintro e w2 ⟨rfl,hh2⟩
 go_wp2
 go_ret
 exact⟨rfl,by exact .trans (.alloc X1 _) hh2⟩
set_option maxRecDepth 100000 in
set_option maxHeartbeats 1000000 in
theorem specHd_no (wide deep free step price capp clock bank id:Int)(p:Option Addr)(n cap:Nat)(q:Option Addr)(m c2:Nat)(w:World)
  (HST:Hid (∀w',Ext w w'→Calls Tryz.prog 23 #[.agg #[.int .i64 wide,.int .i64 deep,.slice p n cap,.int .i64 free,.int .i64 step,.int .i64 price,.int .i64 capp,.int .i64 clock,.int .i64 bank,.slice q m c2],.int .i64 id] w' fun e w''=>e= .returned (.tuple #[.agg #[.int .i64 0,.int .i64 0,.int .i64 0],.bool false])∧Ext w' w'')):
  Calls Tryz.prog 27 #[.agg #[.int .i64 wide,.int .i64 deep,.slice p n cap,.int .i64 free,.int .i64 step,.int .i64 price,.int .i64 capp,.int .i64 clock,.int .i64 bank,.slice q m c2],.int .i64 id] w fun e w'=>e= .returned (.int .i64 (-1))∧Ext w w':=by
 go_enter Tryz.func27,Tryz.ntmps27
 go_wp2_with fail
 refine(HST.out _ (by exact .alloc (.refl _) _)).mono ?_
 rintro e w1 ⟨rfl,hh1⟩
 have BA1:Blk w1 w.heap.size 30 #[.int .i64 wide,.int .i64 deep,.slice p n cap,.int .i64 free,.int .i64 step,.int .i64 price,.int .i64 capp,.int .i64 clock,.int .i64 bank,.slice q m c2]:=(Blk.new w _ _).ext hh1
 have X1:Ext w w1:=((Ext.refl w).alloc _).trans hh1
 have s1:w.heap.size<w1.heap.size:=BA1.lt
 replace BA1:=Lib.hid BA1
 clear hh1
 obtain⟨e1_0,e1_1,e1_2,e1_3,e1_4,e1_5,e1_6,e1_7,e1_8,e1_9⟩:=(BA1.out).ten
 go_wp2
 go_ret
 exact⟨rfl,by exact .alloc X1 _⟩
set_option maxRecDepth 100000 in
set_option maxHeartbeats 1000000 in
theorem specHd_yes (wide deep free step price capp clock bank id:Int)(p:Option Addr)(n cap:Nat)(q:Option Addr)(m c2:Nat)(w:World)(a1 a2 a3:Int)(D:Int)
  (HST:Hid (∀w',Ext w w'→Calls Tryz.prog 23 #[.agg #[.int .i64 wide,.int .i64 deep,.slice p n cap,.int .i64 free,.int .i64 step,.int .i64 price,.int .i64 capp,.int .i64 clock,.int .i64 bank,.slice q m c2],.int .i64 id] w' fun e w''=>e= .returned (.tuple #[.agg #[.int .i64 a1,.int .i64 a2,.int .i64 a3],.bool true])∧Ext w' w''))
  (HD:Hid (∀w',Calls Tryz.prog 75 #[tariffV free step price capp,stayV a1 a2 a3,.int .i64 clock] w' fun e w''=>e= .returned (.int .i64 D)∧Ext w' w'')):
  Calls Tryz.prog 27 #[.agg #[.int .i64 wide,.int .i64 deep,.slice p n cap,.int .i64 free,.int .i64 step,.int .i64 price,.int .i64 capp,.int .i64 clock,.int .i64 bank,.slice q m c2],.int .i64 id] w fun e w'=>e= .returned (.int .i64 D)∧Ext w w':=by
 go_enter Tryz.func27,Tryz.ntmps27
 go_wp2_with fail
 refine(HST.out _ (by exact .alloc (.refl _) _)).mono ?_
 rintro e w1 ⟨rfl,hh1⟩
 have BA1:Blk w1 w.heap.size 30 #[.int .i64 wide,.int .i64 deep,.slice p n cap,.int .i64 free,.int .i64 step,.int .i64 price,.int .i64 capp,.int .i64 clock,.int .i64 bank,.slice q m c2]:=(Blk.new w _ _).ext hh1
 have X1:Ext w w1:=((Ext.refl w).alloc _).trans hh1
 have s1:w.heap.size<w1.heap.size:=BA1.lt
 replace BA1:=Lib.hid BA1
 clear hh1
 obtain⟨e1_0,e1_1,e1_2,e1_3,e1_4,e1_5,e1_6,e1_7,e1_8,e1_9⟩:=(BA1.out).ten
 go_wp2_with fail
 refine(HD.out _).mono ?_
 rintro e w2 ⟨rfl,hh2⟩
 go_wp2
 go_ret
 exact⟨rfl,by exact .trans (.alloc X1 _) hh2⟩
set_option maxRecDepth 100000 in
set_option maxHeartbeats 1000000 in
theorem specHm_no (wide deep free step price capp clock bank id:Int)(p:Option Addr)(n cap:Nat)(q:Option Addr)(m c2:Nat)(w:World)
  (HST:Hid (∀w',Ext w w'→Calls Tryz.prog 23 #[.agg #[.int .i64 wide,.int .i64 deep,.slice p n cap,.int .i64 free,.int .i64 step,.int .i64 price,.int .i64 capp,.int .i64 clock,.int .i64 bank,.slice q m c2],.int .i64 id] w' fun e w''=>e= .returned (.tuple #[.agg #[.int .i64 0,.int .i64 0,.int .i64 0],.bool false])∧Ext w' w'')):
  Calls Tryz.prog 31 #[.agg #[.int .i64 wide,.int .i64 deep,.slice p n cap,.int .i64 free,.int .i64 step,.int .i64 price,.int .i64 capp,.int .i64 clock,.int .i64 bank,.slice q m c2],.int .i64 id] w fun e w'=>e= .returned (.bool false)∧Ext w w':=by
 go_enter Tryz.func31,Tryz.ntmps31
 go_wp2_with fail
 refine(HST.out _ (by exact .alloc (.refl _) _)).mono ?_
 rintro e w1 ⟨rfl,hh1⟩
 have BA1:Blk w1 w.heap.size 30 #[.int .i64 wide,.int .i64 deep,.slice p n cap,.int .i64 free,.int .i64 step,.int .i64 price,.int .i64 capp,.int .i64 clock,.int .i64 bank,.slice q m c2]:=(Blk.new w _ _).ext hh1
 have X1:Ext w w1:=((Ext.refl w).alloc _).trans hh1
 have s1:w.heap.size<w1.heap.size:=BA1.lt
 replace BA1:=Lib.hid BA1
 clear hh1
 obtain⟨e1_0,e1_1,e1_2,e1_3,e1_4,e1_5,e1_6,e1_7,e1_8,e1_9⟩:=(BA1.out).ten
 go_wp2
 go_ret
 exact⟨rfl,by exact .alloc X1 _⟩
set_option maxRecDepth 100000 in
set_option maxHeartbeats 1000000 in
theorem specHm_yes (wide deep free step price capp clock bank id:Int)(p:Option Addr)(n cap:Nat)(q:Option Addr)(m c2:Nat)(w:World)(a1 a2 a3:Int)(D:Bool)
  (HST:Hid (∀w',Ext w w'→Calls Tryz.prog 23 #[.agg #[.int .i64 wide,.int .i64 deep,.slice p n cap,.int .i64 free,.int .i64 step,.int .i64 price,.int .i64 capp,.int .i64 clock,.int .i64 bank,.slice q m c2],.int .i64 id] w' fun e w''=>e= .returned (.tuple #[.agg #[.int .i64 a1,.int .i64 a2,.int .i64 a3],.bool true])∧Ext w' w''))
  (HD:Hid (∀w',Calls Tryz.prog 78 #[tariffV free step price capp,stayV a1 a2 a3,.int .i64 clock] w' fun e w''=>e= .returned (.bool D)∧Ext w' w'')):
  Calls Tryz.prog 31 #[.agg #[.int .i64 wide,.int .i64 deep,.slice p n cap,.int .i64 free,.int .i64 step,.int .i64 price,.int .i64 capp,.int .i64 clock,.int .i64 bank,.slice q m c2],.int .i64 id] w fun e w'=>e= .returned (.bool D)∧Ext w w':=by
 go_enter Tryz.func31,Tryz.ntmps31
 go_wp2_with fail
 refine(HST.out _ (by exact .alloc (.refl _) _)).mono ?_
 rintro e w1 ⟨rfl,hh1⟩
 have BA1:Blk w1 w.heap.size 30 #[.int .i64 wide,.int .i64 deep,.slice p n cap,.int .i64 free,.int .i64 step,.int .i64 price,.int .i64 capp,.int .i64 clock,.int .i64 bank,.slice q m c2]:=(Blk.new w _ _).ext hh1
 have X1:Ext w w1:=((Ext.refl w).alloc _).trans hh1
 have s1:w.heap.size<w1.heap.size:=BA1.lt
 replace BA1:=Lib.hid BA1
 clear hh1
 obtain⟨e1_0,e1_1,e1_2,e1_3,e1_4,e1_5,e1_6,e1_7,e1_8,e1_9⟩:=(BA1.out).ten
 go_wp2_with fail
 refine(HD.out _).mono ?_
 rintro e w2 ⟨rfl,hh2⟩
 go_wp2
 go_ret
 exact⟨rfl,by exact .trans (.alloc X1 _) hh2⟩
theorem stay_good {h:HouseD}{id a1 a2 a3:Int}(hs:houseStay h id=some (a1,a2,a3)):tariffOk h.free h.step h.price h.capp=true∧stayOk a1 a2 a3=true∧a3≤h.clock∧h.clock≤9999:=by
 unfold houseStay at hs
 split at hs
 ·rename_i hok
  rw[Option.map_eq_some_iff]at hs
  obtain⟨v,hv,e⟩:=hs
  have hm:=List.mem_of_find?_eq_some hv
  simp only[houseOk,numsOk,Bool.and_eq_true,decide_eq_true_eq]at hok
  have:=(visitsOk_len hok.2).2 v hm
  obtain⟨v0,v1,v2,v3⟩:=v
  simp only[Prod.mk.injEq]at e
  obtain⟨rfl,rfl,rfl⟩:=e
  simp only[visitOk,Bool.and_eq_true,decide_eq_true_eq]at this
  exact⟨hok.1.1.2,this.1,this.2,hok.1.2.2.1⟩
 ·simp at hs
theorem implHouseDue (h:HouseD)(id:Int)(p:Option Addr)(n cap:Nat)(q:Option Addr)(m c2:Nat)(w:World)(hi:IsHouse w h p n cap q m c2):
  Calls Tryz.prog 26 #[houseV h p n cap q m c2,.int .i64 id] w fun e w'=>e= .returned (.int .i64 (houseDue h id))∧Ext w w':=by
 have HST:=fun(w':World) (hx:Ext w w')=>implHst h id p n cap q m c2 w' (hi.ext hx)
 unfold stayR at HST
 unfold houseDue
 cases hs:houseStay h id with
 |none=>
  rw[hs]at HST
  exact implHd_no h.wide h.deep h.free h.step h.price h.capp h.clock h.bank id p n cap q m c2 w HST
 |some s=>
  obtain⟨a1,a2,a3⟩:=s
  rw[hs]at HST
  obtain⟨t,st,hc,h9⟩:=stay_good hs
  exact implHd_yes h.wide h.deep h.free h.step h.price h.capp h.clock h.bank id p n cap q m c2 w a1 a2 a3 _ HST (fun w'=>implSd h.free h.step h.price h.capp a1 a2 a3 h.clock w' t st hc h9)
theorem implHouseMay (h:HouseD)(id:Int)(p:Option Addr)(n cap:Nat)(q:Option Addr)(m c2:Nat)(w:World)(hi:IsHouse w h p n cap q m c2):
  Calls Tryz.prog 30 #[houseV h p n cap q m c2,.int .i64 id] w fun e w'=>e= .returned (.bool (houseMay h id))∧Ext w w':=by
 have HST:=fun(w':World) (hx:Ext w w')=>implHst h id p n cap q m c2 w' (hi.ext hx)
 unfold stayR at HST
 unfold houseMay
 cases hs:houseStay h id with
 |none=>
  rw[hs]at HST
  exact implHm_no h.wide h.deep h.free h.step h.price h.capp h.clock h.bank id p n cap q m c2 w HST
 |some s=>
  obtain⟨a1,a2,a3⟩:=s
  rw[hs]at HST
  obtain⟨t,st,hc,h9⟩:=stay_good hs
  exact implHm_yes h.wide h.deep h.free h.step h.price h.capp h.clock h.bank id p n cap q m c2 w a1 a2 a3 _ HST (fun w'=>implMl h.free h.step h.price h.capp a1 a2 a3 h.clock w' t st hc h9)
theorem specHouseDue (h:HouseD)(id:Int)(p:Option Addr)(n cap:Nat)(q:Option Addr)(m c2:Nat)(w:World)(hi:IsHouse w h p n cap q m c2):
  Calls Tryz.prog 27 #[houseV h p n cap q m c2,.int .i64 id] w fun e w'=>e= .returned (.int .i64 (houseDue h id))∧Ext w w':=by
 have HST:=fun(w':World) (hx:Ext w w')=>specHst h id p n cap q m c2 w' (hi.ext hx)
 unfold stayR at HST
 unfold houseDue
 cases hs:houseStay h id with
 |none=>
  rw[hs]at HST
  exact specHd_no h.wide h.deep h.free h.step h.price h.capp h.clock h.bank id p n cap q m c2 w HST
 |some s=>
  obtain⟨a1,a2,a3⟩:=s
  rw[hs]at HST
  obtain⟨t,st,hc,h9⟩:=stay_good hs
  exact specHd_yes h.wide h.deep h.free h.step h.price h.capp h.clock h.bank id p n cap q m c2 w a1 a2 a3 _ HST (fun w'=>specSd h.free h.step h.price h.capp a1 a2 a3 h.clock w' t st hc h9)
theorem specHouseMay (h:HouseD)(id:Int)(p:Option Addr)(n cap:Nat)(q:Option Addr)(m c2:Nat)(w:World)(hi:IsHouse w h p n cap q m c2):
  Calls Tryz.prog 31 #[houseV h p n cap q m c2,.int .i64 id] w fun e w'=>e= .returned (.bool (houseMay h id))∧Ext w w':=by
 have HST:=fun(w':World) (hx:Ext w w')=>specHst h id p n cap q m c2 w' (hi.ext hx)
 unfold stayR at HST
 unfold houseMay
 cases hs:houseStay h id with
 |none=>
  rw[hs]at HST
  exact specHm_no h.wide h.deep h.free h.step h.price h.capp h.clock h.bank id p n cap q m c2 w HST
 |some s=>
  obtain⟨a1,a2,a3⟩:=s
  rw[hs]at HST
  obtain⟨t,st,hc,h9⟩:=stay_good hs
  exact specHm_yes h.wide h.deep h.free h.step h.price h.capp h.clock h.bank id p n cap q m c2 w a1 a2 a3 _ HST (fun w'=>specMl h.free h.step h.price h.capp a1 a2 a3 h.clock w' t st hc h9)
end Go.Proofs.YteejdnmmpmcmeaaGreatDoor

namespace Go.Proofs.YteejdnmmpmcmeaaGreatDoor
open Go.RowKit
set_option linter.unusedVariables false
set_option linter.unusedSimpArgs false
abbrev THD:TypeId:=64
set_option maxRecDepth 100000 in
set_option maxHeartbeats 8000000 in
theorem specDo_bad (wide deep free step price capp clock bank kind one two:Int)(p:Option Addr)(n cap:Nat)(q:Option Addr)(m c2:Nat)(xs:List Int)(vs:List Visit4)(w:World)
  (HVd:Hid (∀w',Ext w w'→Calls Tryz.prog 17 #[.agg #[.int .i64 wide,.int .i64 deep,.slice p n cap,.int .i64 free,.int .i64 step,.int .i64 price,.int .i64 capp,.int .i64 clock,.int .i64 bank,.slice q m c2]] w' fun e w''=>e= .returned (.bool false)∧Ext w' w'')):
  Calls Tryz.prog 116 #[.agg #[.int .i64 wide,.int .i64 deep,.slice p n cap,.int .i64 free,.int .i64 step,.int .i64 price,.int .i64 capp,.int .i64 clock,.int .i64 bank,.slice q m c2],.agg #[.int .i64 kind,.int .i64 one,.int .i64 two]] w fun e w'=>e= .returned (.tuple #[.agg #[.int .i64 0,.int .i64 0,.slice none 0 0,.int .i64 0,.int .i64 0,.int .i64 0,.int .i64 0,.int .i64 0,.int .i64 0,.slice none 0 0],.int .i64 (-1),.bool false])∧Ext w w':=by
 go_enter Tryz.func116,Tryz.ntmps116
 go_wp2_with fail
 refine(HVd.out _ (((((((Mem.start w).blkNew TH10 #[.int .i64 wide,.int .i64 deep,.slice p n cap,.int .i64 free,.int .i64 step,.int .i64 price,.int .i64 capp,.int .i64 clock,.int .i64 bank,.slice q m c2] (w.heap.size) (by simp))).blkNew THD #[.int .i64 kind,.int .i64 one,.int .i64 two] (w.heap.size+1) (by simp))).blkNew TH10 #[.int .i64 0,.int .i64 0,.slice none 0 0,.int .i64 0,.int .i64 0,.int .i64 0,.int .i64 0,.int .i64 0,.int .i64 0,.slice none 0 0] (w.heap.size+1+1) (by simp))).ext).mono ?_
 rintro e w1 ⟨rfl,hx1⟩
 have M1:=Lib.hid ((((((((Mem.start w).blkNew TH10 #[.int .i64 wide,.int .i64 deep,.slice p n cap,.int .i64 free,.int .i64 step,.int .i64 price,.int .i64 capp,.int .i64 clock,.int .i64 bank,.slice q m c2] (w.heap.size) (by simp))).blkNew THD #[.int .i64 kind,.int .i64 one,.int .i64 two] (w.heap.size+1) (by simp))).blkNew TH10 #[.int .i64 0,.int .i64 0,.slice none 0 0,.int .i64 0,.int .i64 0,.int .i64 0,.int .i64 0,.int .i64 0,.int .i64 0,.slice none 0 0] (w.heap.size+1+1) (by simp))).adv hx1)
 have lt1_0:w.heap.size+1+1<w1.heap.size:=(M1.out.lt (i:=0) rfl rfl).2
 have lt1_1:w.heap.size+1<w1.heap.size:=(M1.out.lt (i:=1) rfl rfl).2
 have lt1_2:w.heap.size<w1.heap.size:=(M1.out.lt (i:=2) rfl rfl).2
 clear hx1
 clear HVd
 obtain⟨f0,ff0,f1,ff1,f2,ff2,f3,ff3,f4,ff4,f5,ff5,f6,ff6,f7,ff7,f8,ff8,f9,ff9⟩:=(M1.out.blk (i:=0) rfl).tenf
 go_wp2
 clear f0 ff0 f1 ff1 f2 ff2 f3 ff3 f4 ff4 f5 ff5 f6 ff6 f7 ff7 f8 ff8 f9 ff9 lt1_0 lt1_1 lt1_2
 have M2:=Lib.hid (((M1.out).put10 (i:=0) rfl (.int .i64 0) (.int .i64 0) (.slice none 0 0) (.int .i64 0) (.int .i64 0) (.int .i64 0) (.int .i64 0) (.int .i64 0) (.int .i64 0) (.slice none 0 0)))
 generalize hwz:World.setCell _ _ _=wz
 rw[hwz]at M2
 clear hwz M1
 obtain⟨y0,y1,y2,y3,y4,y5,y6,y7,y8,y9⟩:=(M2.out.blk (i:=0) rfl).ten
 exact bodyPost_ret (v:= .tuple #[.agg #[.int .i64 0,.int .i64 0,.slice none 0 0,.int .i64 0,.int .i64 0,.int .i64 0,.int .i64 0,.int .i64 0,.int .i64 0,.slice none 0 0],.int .i64 (-1),.bool false]) (by simp[results,Tryz.results116,go_sem, *]) rfl ⟨rfl,M2.out.ext⟩
set_option maxRecDepth 100000 in
set_option maxHeartbeats 8000000 in
theorem specDo_other (wide deep free step price capp clock bank kind one two:Int)(p:Option Addr)(n cap:Nat)(q:Option Addr)(m c2:Nat)(xs:List Int)(vs:List Visit4)(w:World)(h0:kind≠0)(h1:kind≠1)(h2:kind≠2)(h3:kind≠3)(h4:kind≠4)
  (HVd:Hid (∀w',Ext w w'→Calls Tryz.prog 17 #[.agg #[.int .i64 wide,.int .i64 deep,.slice p n cap,.int .i64 free,.int .i64 step,.int .i64 price,.int .i64 capp,.int .i64 clock,.int .i64 bank,.slice q m c2]] w' fun e w''=>e= .returned (.bool true)∧Ext w' w''))
  (HL:Hid (∀w',Ext w w'→Calls Tryz.prog 146 #[.agg #[.int .i64 wide,.int .i64 deep,.slice p n cap,.int .i64 free,.int .i64 step,.int .i64 price,.int .i64 capp,.int .i64 clock,.int .i64 bank,.slice q m c2]] w' fun e w''=> ∃p' cap' q' c2',e= .returned (.agg #[.int .i64 wide,.int .i64 deep,.slice p' n cap',.int .i64 free,.int .i64 step,.int .i64 price,.int .i64 capp,.int .i64 clock,.int .i64 bank,.slice q' m c2'])∧w''.ownsRow w'.heap.size TI 1 (.slice p' n cap') n (ivs xs)∧w''.ownsRow w'.heap.size TV 4 (.slice q' m c2') m (vs.flatMap visitCells)∧Ext w' w'')):
  Calls Tryz.prog 116 #[.agg #[.int .i64 wide,.int .i64 deep,.slice p n cap,.int .i64 free,.int .i64 step,.int .i64 price,.int .i64 capp,.int .i64 clock,.int .i64 bank,.slice q m c2],.agg #[.int .i64 kind,.int .i64 one,.int .i64 two]] w fun e w'=> ∃p' cap' q' c2',e= .returned (.tuple #[.agg #[.int .i64 wide,.int .i64 deep,.slice p' n cap',.int .i64 free,.int .i64 step,.int .i64 price,.int .i64 capp,.int .i64 clock,.int .i64 bank,.slice q' m c2'],.int .i64 (-1),.bool false])∧w'.ownsRow w.heap.size TI 1 (.slice p' n cap') n (ivs xs)∧w'.ownsRow w.heap.size TV 4 (.slice q' m c2') m (vs.flatMap visitCells)∧Ext w w':=by
 go_enter Tryz.func116,Tryz.ntmps116
 go_wp2_with fail
 refine(HVd.out _ (((((((Mem.start w).blkNew TH10 #[.int .i64 wide,.int .i64 deep,.slice p n cap,.int .i64 free,.int .i64 step,.int .i64 price,.int .i64 capp,.int .i64 clock,.int .i64 bank,.slice q m c2] (w.heap.size) (by simp))).blkNew THD #[.int .i64 kind,.int .i64 one,.int .i64 two] (w.heap.size+1) (by simp))).blkNew TH10 #[.int .i64 0,.int .i64 0,.slice none 0 0,.int .i64 0,.int .i64 0,.int .i64 0,.int .i64 0,.int .i64 0,.int .i64 0,.slice none 0 0] (w.heap.size+1+1) (by simp))).ext).mono ?_
 rintro e w1 ⟨rfl,hx1⟩
 have M1:=Lib.hid ((((((((Mem.start w).blkNew TH10 #[.int .i64 wide,.int .i64 deep,.slice p n cap,.int .i64 free,.int .i64 step,.int .i64 price,.int .i64 capp,.int .i64 clock,.int .i64 bank,.slice q m c2] (w.heap.size) (by simp))).blkNew THD #[.int .i64 kind,.int .i64 one,.int .i64 two] (w.heap.size+1) (by simp))).blkNew TH10 #[.int .i64 0,.int .i64 0,.slice none 0 0,.int .i64 0,.int .i64 0,.int .i64 0,.int .i64 0,.int .i64 0,.int .i64 0,.slice none 0 0] (w.heap.size+1+1) (by simp))).adv hx1)
 have lt1_0:w.heap.size+1+1<w1.heap.size:=(M1.out.lt (i:=0) rfl rfl).2
 have lt1_1:w.heap.size+1<w1.heap.size:=(M1.out.lt (i:=1) rfl rfl).2
 have lt1_2:w.heap.size<w1.heap.size:=(M1.out.lt (i:=2) rfl rfl).2
 clear hx1
 clear HVd
 obtain⟨ce0,ce1,ce2,ce3,ce4,ce5,ce6,ce7,ce8,ce9⟩:=(M1.out.blk (i:=2) rfl).ten
 go_wp2_with fail
 clear ce0 ce1 ce2 ce3 ce4 ce5 ce6 ce7 ce8 ce9
 refine(HL.out _ (M1.out).ext).mono ?_
 rintro e w2 ⟨p1,cp1,q1,cq1,rfl,ho,hq,hx⟩
 have M2:=Lib.hid ((M1.out).own2 hx ho hq (Nat.le_refl _) (by decide))
 clear M1
 clear lt1_0 lt1_1 lt1_2
 have lt2_2:w.heap.size+1+1<w2.heap.size:=(M2.out.lt (i:=2) rfl rfl).2
 have lt2_3:w.heap.size+1<w2.heap.size:=(M2.out.lt (i:=3) rfl rfl).2
 have lt2_4:w.heap.size<w2.heap.size:=(M2.out.lt (i:=4) rfl rfl).2
 clear hx ho hq
 obtain⟨ce0,ce1,ce2,ce3,ce4,ce5,ce6,ce7,ce8,ce9⟩:=(M2.out.blk (i:=4) rfl).ten
 have de0:w2.cell? ⟨w.heap.size+1,0,none⟩=some (.int .i64 kind):=(M2.out.blk (i:=3) rfl).cell 0
 have k0:(kind==0)=false:=by simp;omega
 have k1:(kind==1)=false:=by simp;omega
 have k2:(kind==2)=false:=by simp;omega
 have k3:(kind==3)=false:=by simp;omega
 have k4:(kind==4)=false:=by simp;omega
 go_wp2_with fail
 clear ce0 ce1 ce2 ce3 ce4 ce5 ce6 ce7 ce8 ce9 de0
 refine(HL.out _ (((M2.out).blkNew TH10 #[.int .i64 wide,.int .i64 deep,.slice p1 n cp1,.int .i64 free,.int .i64 step,.int .i64 price,.int .i64 capp,.int .i64 clock,.int .i64 bank,.slice q1 m cq1] (w2.heap.size) (by simp))).ext).mono ?_
 rintro e w9 ⟨p9,cp9,q9,cq9,rfl,ho,hq,hx⟩
 have M3:=Lib.hid ((((M2.out).blkNew TH10 #[.int .i64 wide,.int .i64 deep,.slice p1 n cp1,.int .i64 free,.int .i64 step,.int .i64 price,.int .i64 capp,.int .i64 clock,.int .i64 bank,.slice q1 m cq1] (w2.heap.size) (by simp))).own2 hx ho hq (Nat.le_refl _) (by decide))
 clear M2
 clear lt2_2 lt2_3 lt2_4
 have lt3_2:w2.heap.size<w9.heap.size:=(M3.out.lt (i:=2) rfl rfl).2
 have lt3_5:w.heap.size+1+1<w9.heap.size:=(M3.out.lt (i:=5) rfl rfl).2
 have lt3_6:w.heap.size+1<w9.heap.size:=(M3.out.lt (i:=6) rfl rfl).2
 have lt3_7:w.heap.size<w9.heap.size:=(M3.out.lt (i:=7) rfl rfl).2
 clear hx ho hq HL
 obtain⟨f0,ff0,f1,ff1,f2,ff2,f3,ff3,f4,ff4,f5,ff5,f6,ff6,f7,ff7,f8,ff8,f9,ff9⟩:=(M3.out.blk (i:=5) rfl).tenf
 go_wp2
 clear f0 ff0 f1 ff1 f2 ff2 f3 ff3 f4 ff4 f5 ff5 f6 ff6 f7 ff7 f8 ff8 f9 ff9 lt3_2 lt3_5 lt3_6 lt3_7
 have M4:=Lib.hid (((M3.out).put10 (i:=5) rfl (.int .i64 wide) (.int .i64 deep) (.slice p9 n cp9) (.int .i64 free) (.int .i64 step) (.int .i64 price) (.int .i64 capp) (.int .i64 clock) (.int .i64 bank) (.slice q9 m cq9)))
 generalize hwz:World.setCell _ _ _=wz
 rw[hwz]at M4
 clear hwz M3
 obtain⟨y0,y1,y2,y3,y4,y5,y6,y7,y8,y9⟩:=(M4.out.blk (i:=5) rfl).ten
 exact bodyPost_ret (v:= .tuple #[.agg #[.int .i64 wide,.int .i64 deep,.slice p9 n cp9,.int .i64 free,.int .i64 step,.int .i64 price,.int .i64 capp,.int .i64 clock,.int .i64 bank,.slice q9 m cq9],.int .i64 (-1),.bool false]) (by simp[results,Tryz.results116,go_sem, *]) rfl ⟨p9,cp9,q9,cq9,rfl,(M4.out.own (i:=0) rfl),(M4.out.own (i:=1) rfl),M4.out.ext⟩
set_option maxRecDepth 100000 in
set_option maxHeartbeats 8000000 in
theorem specDo_wait_yes (wide deep free step price capp clock bank one two:Int)(p:Option Addr)(n cap:Nat)(q:Option Addr)(m c2:Nat)(xs:List Int)(vs:List Visit4)(w:World)(hc:0≤clock)(hc2:clock≤9999)(h1:1≤one)(h2:one≤9999-clock)
  (HVd:Hid (∀w',Ext w w'→Calls Tryz.prog 17 #[.agg #[.int .i64 wide,.int .i64 deep,.slice p n cap,.int .i64 free,.int .i64 step,.int .i64 price,.int .i64 capp,.int .i64 clock,.int .i64 bank,.slice q m c2]] w' fun e w''=>e= .returned (.bool true)∧Ext w' w''))
  (HL:Hid (∀w',Ext w w'→Calls Tryz.prog 146 #[.agg #[.int .i64 wide,.int .i64 deep,.slice p n cap,.int .i64 free,.int .i64 step,.int .i64 price,.int .i64 capp,.int .i64 clock,.int .i64 bank,.slice q m c2]] w' fun e w''=> ∃p' cap' q' c2',e= .returned (.agg #[.int .i64 wide,.int .i64 deep,.slice p' n cap',.int .i64 free,.int .i64 step,.int .i64 price,.int .i64 capp,.int .i64 clock,.int .i64 bank,.slice q' m c2'])∧w''.ownsRow w'.heap.size TI 1 (.slice p' n cap') n (ivs xs)∧w''.ownsRow w'.heap.size TV 4 (.slice q' m c2') m (vs.flatMap visitCells)∧Ext w' w''))
  (HI:Hid (∀w',Calls Tryz.prog 66 #[.int .i64 one,.int .i64 1,.int .i64 (9999-clock)] w' fun e w''=>e= .returned (.bool true)∧w'=w'')):
  Calls Tryz.prog 116 #[.agg #[.int .i64 wide,.int .i64 deep,.slice p n cap,.int .i64 free,.int .i64 step,.int .i64 price,.int .i64 capp,.int .i64 clock,.int .i64 bank,.slice q m c2],.agg #[.int .i64 3,.int .i64 one,.int .i64 two]] w fun e w'=> ∃p' cap' q' c2',e= .returned (.tuple #[.agg #[.int .i64 wide,.int .i64 deep,.slice p' n cap',.int .i64 free,.int .i64 step,.int .i64 price,.int .i64 capp,.int .i64 (clock+one),.int .i64 bank,.slice q' m c2'],.int .i64 (clock+one),.bool true])∧w'.ownsRow w.heap.size TI 1 (.slice p' n cap') n (ivs xs)∧w'.ownsRow w.heap.size TV 4 (.slice q' m c2') m (vs.flatMap visitCells)∧Ext w w':=by
 go_enter Tryz.func116,Tryz.ntmps116
 go_wp2_with fail
 refine(HVd.out _ (((((((Mem.start w).blkNew TH10 #[.int .i64 wide,.int .i64 deep,.slice p n cap,.int .i64 free,.int .i64 step,.int .i64 price,.int .i64 capp,.int .i64 clock,.int .i64 bank,.slice q m c2] (w.heap.size) (by simp))).blkNew THD #[.int .i64 3,.int .i64 one,.int .i64 two] (w.heap.size+1) (by simp))).blkNew TH10 #[.int .i64 0,.int .i64 0,.slice none 0 0,.int .i64 0,.int .i64 0,.int .i64 0,.int .i64 0,.int .i64 0,.int .i64 0,.slice none 0 0] (w.heap.size+1+1) (by simp))).ext).mono ?_
 rintro e w1 ⟨rfl,hx1⟩
 have M1:=Lib.hid ((((((((Mem.start w).blkNew TH10 #[.int .i64 wide,.int .i64 deep,.slice p n cap,.int .i64 free,.int .i64 step,.int .i64 price,.int .i64 capp,.int .i64 clock,.int .i64 bank,.slice q m c2] (w.heap.size) (by simp))).blkNew THD #[.int .i64 3,.int .i64 one,.int .i64 two] (w.heap.size+1) (by simp))).blkNew TH10 #[.int .i64 0,.int .i64 0,.slice none 0 0,.int .i64 0,.int .i64 0,.int .i64 0,.int .i64 0,.int .i64 0,.int .i64 0,.slice none 0 0] (w.heap.size+1+1) (by simp))).adv hx1)
 have lt1_0:w.heap.size+1+1<w1.heap.size:=(M1.out.lt (i:=0) rfl rfl).2
 have lt1_1:w.heap.size+1<w1.heap.size:=(M1.out.lt (i:=1) rfl rfl).2
 have lt1_2:w.heap.size<w1.heap.size:=(M1.out.lt (i:=2) rfl rfl).2
 clear hx1
 clear HVd
 obtain⟨ce0,ce1,ce2,ce3,ce4,ce5,ce6,ce7,ce8,ce9⟩:=(M1.out.blk (i:=2) rfl).ten
 go_wp2_with fail
 clear ce0 ce1 ce2 ce3 ce4 ce5 ce6 ce7 ce8 ce9
 refine(HL.out _ (M1.out).ext).mono ?_
 rintro e w2 ⟨p1,cp1,q1,cq1,rfl,ho,hq,hx⟩
 have M2:=Lib.hid ((M1.out).own2 hx ho hq (Nat.le_refl _) (by decide))
 clear M1
 clear lt1_0 lt1_1 lt1_2
 have lt2_2:w.heap.size+1+1<w2.heap.size:=(M2.out.lt (i:=2) rfl rfl).2
 have lt2_3:w.heap.size+1<w2.heap.size:=(M2.out.lt (i:=3) rfl rfl).2
 have lt2_4:w.heap.size<w2.heap.size:=(M2.out.lt (i:=4) rfl rfl).2
 clear hx ho hq
 obtain⟨ce0,ce1,ce2,ce3,ce4,ce5,ce6,ce7,ce8,ce9⟩:=(M2.out.blk (i:=4) rfl).ten
 obtain⟨de0,de1,de2⟩:=(M2.out.blk (i:=3) rfl).tri
 have k1:IntKind.i64.wrap (9999-clock)=9999-clock:=IntWalk.i64_in _ (by omega)
 go_wp2_with fail
 refine(HI.out _).mono ?_
 rintro e _ ⟨rfl,rfl⟩
 clear HI k1
 clear ce0 ce1 ce2 ce3 ce4 ce5 ce6 ce7 ce8 ce9 de0 de1 de2
 have M3:=Lib.hid (((M2.out).blkNew TH10 #[.int .i64 wide,.int .i64 deep,.slice p1 n cp1,.int .i64 free,.int .i64 step,.int .i64 price,.int .i64 capp,.int .i64 clock,.int .i64 bank,.slice q1 m cq1] (w2.heap.size) (by simp)))
 generalize (w2.alloc (.cells #[.int .i64 wide,.int .i64 deep,.slice p1 n cp1,.int .i64 free,.int .i64 step,.int .i64 price,.int .i64 capp,.int .i64 clock,.int .i64 bank,.slice q1 m cq1] TH10))=w3 at M3⊢
 clear M2
 clear lt2_2 lt2_3 lt2_4
 have lt3_0:w2.heap.size<w3.heap.size:=(M3.out.lt (i:=0) rfl rfl).2
 have lt3_3:w.heap.size+1+1<w3.heap.size:=(M3.out.lt (i:=3) rfl rfl).2
 have lt3_4:w.heap.size+1<w3.heap.size:=(M3.out.lt (i:=4) rfl rfl).2
 have lt3_5:w.heap.size<w3.heap.size:=(M3.out.lt (i:=5) rfl rfl).2
 have ce7:w3.cell? ⟨w.heap.size,7,none⟩=some (.int .i64 clock):=(M3.out.blk (i:=5) rfl).cell 7
 have de1:w3.cell? ⟨w.heap.size+1,1,none⟩=some (.int .i64 one):=(M3.out.blk (i:=4) rfl).cell 1
 obtain⟨d0,df0,d1,df1,d2,df2,d3,df3,d4,df4,d5,df5,d6,df6,d7,df7,d8,df8,d9,df9⟩:=(M3.out.blk (i:=0) rfl).tenf
 obtain⟨f0,ff0,f1,ff1,f2,ff2,f3,ff3,f4,ff4,f5,ff5,f6,ff6,f7,ff7,f8,ff8,f9,ff9⟩:=(M3.out.blk (i:=3) rfl).tenf
 have ne0_1a: ¬(w.heap.size+1=w.heap.size):=M3.out.ne (i:=4) (j:=5) (by omega) rfl rfl rfl rfl
 have ne0_1b: ¬(w.heap.size=w.heap.size+1):=fun h=>ne0_1a h.symm
 have ne0_2a: ¬(w.heap.size+1+1=w.heap.size):=M3.out.ne (i:=3) (j:=5) (by omega) rfl rfl rfl rfl
 have ne0_2b: ¬(w.heap.size=w.heap.size+1+1):=fun h=>ne0_2a h.symm
 have ne0_3a: ¬(w2.heap.size=w.heap.size):=M3.out.ne (i:=0) (j:=5) (by omega) rfl rfl rfl rfl
 have ne0_3b: ¬(w.heap.size=w2.heap.size):=fun h=>ne0_3a h.symm
 have ne1_2a: ¬(w.heap.size+1+1=w.heap.size+1):=M3.out.ne (i:=3) (j:=4) (by omega) rfl rfl rfl rfl
 have ne1_2b: ¬(w.heap.size+1=w.heap.size+1+1):=fun h=>ne1_2a h.symm
 have ne1_3a: ¬(w2.heap.size=w.heap.size+1):=M3.out.ne (i:=0) (j:=4) (by omega) rfl rfl rfl rfl
 have ne1_3b: ¬(w.heap.size+1=w2.heap.size):=fun h=>ne1_3a h.symm
 have ne2_3a: ¬(w2.heap.size=w.heap.size+1+1):=M3.out.ne (i:=0) (j:=3) (by omega) rfl rfl rfl rfl
 have ne2_3b: ¬(w.heap.size+1+1=w2.heap.size):=fun h=>ne2_3a h.symm
 have k2:IntKind.i64.wrap (clock+one)=clock+one:=IntWalk.i64_in _ (by omega)
 have hd:decide (clock+one<0)=false:=by simp;omega
 clear HL
 have M4:=Lib.hid (show Mem w (w3.setCell ⟨w2.heap.size,7,none⟩ (.int .i64 (clock+one))) [blkI w.heap.size (w2.heap.size) TH10 #[.int .i64 wide,.int .i64 deep,.slice p1 n cp1,.int .i64 free,.int .i64 step,.int .i64 price,.int .i64 capp,.int .i64 (clock+one),.int .i64 bank,.slice q1 m cq1],ownI w.heap.size TI 1 (p1) (n) (cp1) (ivs xs),ownI w.heap.size TV 4 (q1) (m) (cq1) (vs.flatMap visitCells),blkI w.heap.size (w.heap.size+1+1) TH10 #[.int .i64 0,.int .i64 0,.slice none 0 0,.int .i64 0,.int .i64 0,.int .i64 0,.int .i64 0,.int .i64 0,.int .i64 0,.slice none 0 0],blkI w.heap.size (w.heap.size+1) THD #[.int .i64 3,.int .i64 one,.int .i64 two],blkI w.heap.size (w.heap.size) TH10 #[.int .i64 wide,.int .i64 deep,.slice p n cap,.int .i64 free,.int .i64 step,.int .i64 price,.int .i64 capp,.int .i64 clock,.int .i64 bank,.slice q m c2]]from((M3.out).store (i:=0) rfl 7 (.int .i64 (clock+one))))
 go_wp2
 clear ce7 de1 d0 df0 d1 df1 d2 df2 d3 df3 d4 df4 d5 df5 d6 df6 d7 df7 d8 df8 d9 df9 f0 ff0 f1 ff1 f2 ff2 f3 ff3 f4 ff4 f5 ff5 f6 ff6 f7 ff7 f8 ff8 f9 ff9 ne0_1a ne0_1b ne0_2a ne0_2b ne0_3a ne0_3b ne1_2a ne1_2b ne1_3a ne1_3b ne2_3a ne2_3b lt3_0 lt3_3 lt3_4 lt3_5
 have M5:=Lib.hid (((M4.out).put10 (i:=3) rfl (.int .i64 wide) (.int .i64 deep) (.slice p1 n cp1) (.int .i64 free) (.int .i64 step) (.int .i64 price) (.int .i64 capp) (.int .i64 (clock+one)) (.int .i64 bank) (.slice q1 m cq1)))
 generalize hwz:World.setCell _ _ _=wz
 rw[hwz]at M5
 clear hwz M3 M4
 obtain⟨y0,y1,y2,y3,y4,y5,y6,y7,y8,y9⟩:=(M5.out.blk (i:=3) rfl).ten
 exact bodyPost_ret (v:= .tuple #[.agg #[.int .i64 wide,.int .i64 deep,.slice p1 n cp1,.int .i64 free,.int .i64 step,.int .i64 price,.int .i64 capp,.int .i64 (clock+one),.int .i64 bank,.slice q1 m cq1],.int .i64 (clock+one),.bool true]) (by simp[results,Tryz.results116,go_sem, *]) rfl ⟨p1,cp1,q1,cq1,rfl,(M5.out.own (i:=1) rfl),(M5.out.own (i:=2) rfl),M5.out.ext⟩
set_option maxRecDepth 100000 in
set_option maxHeartbeats 8000000 in
theorem specDo_wait_no (wide deep free step price capp clock bank one two:Int)(p:Option Addr)(n cap:Nat)(q:Option Addr)(m c2:Nat)(xs:List Int)(vs:List Visit4)(w:World)(hc:0≤clock)(hc2:clock≤9999)
  (HVd:Hid (∀w',Ext w w'→Calls Tryz.prog 17 #[.agg #[.int .i64 wide,.int .i64 deep,.slice p n cap,.int .i64 free,.int .i64 step,.int .i64 price,.int .i64 capp,.int .i64 clock,.int .i64 bank,.slice q m c2]] w' fun e w''=>e= .returned (.bool true)∧Ext w' w''))
  (HL:Hid (∀w',Ext w w'→Calls Tryz.prog 146 #[.agg #[.int .i64 wide,.int .i64 deep,.slice p n cap,.int .i64 free,.int .i64 step,.int .i64 price,.int .i64 capp,.int .i64 clock,.int .i64 bank,.slice q m c2]] w' fun e w''=> ∃p' cap' q' c2',e= .returned (.agg #[.int .i64 wide,.int .i64 deep,.slice p' n cap',.int .i64 free,.int .i64 step,.int .i64 price,.int .i64 capp,.int .i64 clock,.int .i64 bank,.slice q' m c2'])∧w''.ownsRow w'.heap.size TI 1 (.slice p' n cap') n (ivs xs)∧w''.ownsRow w'.heap.size TV 4 (.slice q' m c2') m (vs.flatMap visitCells)∧Ext w' w''))
  (HI:Hid (∀w',Calls Tryz.prog 66 #[.int .i64 one,.int .i64 1,.int .i64 (9999-clock)] w' fun e w''=>e= .returned (.bool false)∧w'=w'')):
  Calls Tryz.prog 116 #[.agg #[.int .i64 wide,.int .i64 deep,.slice p n cap,.int .i64 free,.int .i64 step,.int .i64 price,.int .i64 capp,.int .i64 clock,.int .i64 bank,.slice q m c2],.agg #[.int .i64 3,.int .i64 one,.int .i64 two]] w fun e w'=> ∃p' cap' q' c2',e= .returned (.tuple #[.agg #[.int .i64 wide,.int .i64 deep,.slice p' n cap',.int .i64 free,.int .i64 step,.int .i64 price,.int .i64 capp,.int .i64 clock,.int .i64 bank,.slice q' m c2'],.int .i64 (-1),.bool false])∧w'.ownsRow w.heap.size TI 1 (.slice p' n cap') n (ivs xs)∧w'.ownsRow w.heap.size TV 4 (.slice q' m c2') m (vs.flatMap visitCells)∧Ext w w':=by
 go_enter Tryz.func116,Tryz.ntmps116
 go_wp2_with fail
 refine(HVd.out _ (((((((Mem.start w).blkNew TH10 #[.int .i64 wide,.int .i64 deep,.slice p n cap,.int .i64 free,.int .i64 step,.int .i64 price,.int .i64 capp,.int .i64 clock,.int .i64 bank,.slice q m c2] (w.heap.size) (by simp))).blkNew THD #[.int .i64 3,.int .i64 one,.int .i64 two] (w.heap.size+1) (by simp))).blkNew TH10 #[.int .i64 0,.int .i64 0,.slice none 0 0,.int .i64 0,.int .i64 0,.int .i64 0,.int .i64 0,.int .i64 0,.int .i64 0,.slice none 0 0] (w.heap.size+1+1) (by simp))).ext).mono ?_
 rintro e w1 ⟨rfl,hx1⟩
 have M1:=Lib.hid ((((((((Mem.start w).blkNew TH10 #[.int .i64 wide,.int .i64 deep,.slice p n cap,.int .i64 free,.int .i64 step,.int .i64 price,.int .i64 capp,.int .i64 clock,.int .i64 bank,.slice q m c2] (w.heap.size) (by simp))).blkNew THD #[.int .i64 3,.int .i64 one,.int .i64 two] (w.heap.size+1) (by simp))).blkNew TH10 #[.int .i64 0,.int .i64 0,.slice none 0 0,.int .i64 0,.int .i64 0,.int .i64 0,.int .i64 0,.int .i64 0,.int .i64 0,.slice none 0 0] (w.heap.size+1+1) (by simp))).adv hx1)
 have lt1_0:w.heap.size+1+1<w1.heap.size:=(M1.out.lt (i:=0) rfl rfl).2
 have lt1_1:w.heap.size+1<w1.heap.size:=(M1.out.lt (i:=1) rfl rfl).2
 have lt1_2:w.heap.size<w1.heap.size:=(M1.out.lt (i:=2) rfl rfl).2
 clear hx1
 clear HVd
 obtain⟨ce0,ce1,ce2,ce3,ce4,ce5,ce6,ce7,ce8,ce9⟩:=(M1.out.blk (i:=2) rfl).ten
 go_wp2_with fail
 clear ce0 ce1 ce2 ce3 ce4 ce5 ce6 ce7 ce8 ce9
 refine(HL.out _ (M1.out).ext).mono ?_
 rintro e w2 ⟨p1,cp1,q1,cq1,rfl,ho,hq,hx⟩
 have M2:=Lib.hid ((M1.out).own2 hx ho hq (Nat.le_refl _) (by decide))
 clear M1
 clear lt1_0 lt1_1 lt1_2
 have lt2_2:w.heap.size+1+1<w2.heap.size:=(M2.out.lt (i:=2) rfl rfl).2
 have lt2_3:w.heap.size+1<w2.heap.size:=(M2.out.lt (i:=3) rfl rfl).2
 have lt2_4:w.heap.size<w2.heap.size:=(M2.out.lt (i:=4) rfl rfl).2
 clear hx ho hq
 obtain⟨ce0,ce1,ce2,ce3,ce4,ce5,ce6,ce7,ce8,ce9⟩:=(M2.out.blk (i:=4) rfl).ten
 obtain⟨de0,de1,de2⟩:=(M2.out.blk (i:=3) rfl).tri
 have k1:IntKind.i64.wrap (9999-clock)=9999-clock:=IntWalk.i64_in _ (by omega)
 go_wp2_with fail
 refine(HI.out _).mono ?_
 rintro e _ ⟨rfl,rfl⟩
 clear HI k1
 clear ce0 ce1 ce2 ce3 ce4 ce5 ce6 ce7 ce8 ce9 de0 de1 de2
 have M3:=Lib.hid (((M2.out).blkNew TH10 #[.int .i64 wide,.int .i64 deep,.slice p1 n cp1,.int .i64 free,.int .i64 step,.int .i64 price,.int .i64 capp,.int .i64 clock,.int .i64 bank,.slice q1 m cq1] (w2.heap.size) (by simp)))
 generalize (w2.alloc (.cells #[.int .i64 wide,.int .i64 deep,.slice p1 n cp1,.int .i64 free,.int .i64 step,.int .i64 price,.int .i64 capp,.int .i64 clock,.int .i64 bank,.slice q1 m cq1] TH10))=w3 at M3⊢
 clear M2
 clear lt2_2 lt2_3 lt2_4
 have lt3_0:w2.heap.size<w3.heap.size:=(M3.out.lt (i:=0) rfl rfl).2
 have lt3_3:w.heap.size+1+1<w3.heap.size:=(M3.out.lt (i:=3) rfl rfl).2
 have lt3_4:w.heap.size+1<w3.heap.size:=(M3.out.lt (i:=4) rfl rfl).2
 have lt3_5:w.heap.size<w3.heap.size:=(M3.out.lt (i:=5) rfl rfl).2
 obtain⟨ce0,ce1,ce2,ce3,ce4,ce5,ce6,ce7,ce8,ce9⟩:=(M3.out.blk (i:=5) rfl).ten
 go_wp2_with fail
 clear ce0 ce1 ce2 ce3 ce4 ce5 ce6 ce7 ce8 ce9
 refine(HL.out _ (M3.out).ext).mono ?_
 rintro e w9 ⟨p9,cp9,q9,cq9,rfl,ho,hq,hx⟩
 have M4:=Lib.hid ((M3.out).own2 hx ho hq (Nat.le_refl _) (by decide))
 clear M3
 clear lt3_0 lt3_3 lt3_4 lt3_5
 have lt4_2:w2.heap.size<w9.heap.size:=(M4.out.lt (i:=2) rfl rfl).2
 have lt4_5:w.heap.size+1+1<w9.heap.size:=(M4.out.lt (i:=5) rfl rfl).2
 have lt4_6:w.heap.size+1<w9.heap.size:=(M4.out.lt (i:=6) rfl rfl).2
 have lt4_7:w.heap.size<w9.heap.size:=(M4.out.lt (i:=7) rfl rfl).2
 clear hx ho hq HL
 obtain⟨f0,ff0,f1,ff1,f2,ff2,f3,ff3,f4,ff4,f5,ff5,f6,ff6,f7,ff7,f8,ff8,f9,ff9⟩:=(M4.out.blk (i:=5) rfl).tenf
 go_wp2
 clear f0 ff0 f1 ff1 f2 ff2 f3 ff3 f4 ff4 f5 ff5 f6 ff6 f7 ff7 f8 ff8 f9 ff9 lt4_2 lt4_5 lt4_6 lt4_7
 have M5:=Lib.hid (((M4.out).put10 (i:=5) rfl (.int .i64 wide) (.int .i64 deep) (.slice p9 n cp9) (.int .i64 free) (.int .i64 step) (.int .i64 price) (.int .i64 capp) (.int .i64 clock) (.int .i64 bank) (.slice q9 m cq9)))
 generalize hwz:World.setCell _ _ _=wz
 rw[hwz]at M5
 clear hwz M4
 obtain⟨y0,y1,y2,y3,y4,y5,y6,y7,y8,y9⟩:=(M5.out.blk (i:=5) rfl).ten
 exact bodyPost_ret (v:= .tuple #[.agg #[.int .i64 wide,.int .i64 deep,.slice p9 n cp9,.int .i64 free,.int .i64 step,.int .i64 price,.int .i64 capp,.int .i64 clock,.int .i64 bank,.slice q9 m cq9],.int .i64 (-1),.bool false]) (by simp[results,Tryz.results116,go_sem, *]) rfl ⟨p9,cp9,q9,cq9,rfl,(M5.out.own (i:=0) rfl),(M5.out.own (i:=1) rfl),M5.out.ext⟩
end Go.Proofs.YteejdnmmpmcmeaaGreatDoor

