/-
  Texts of this proof, packed (@packed).
-/
import Derived.Deep.DeepCutAuto
import Derived.Deep.DeepFit
import Derived.Deep.RegionHeld3
import Derived.Handy
import Derived.KernelRfl
import Derived.Lib.CountLaws
import Derived.Lib.Hide
import Derived.Lib.ItoaLen
import Derived.Lib.ItoaMem
import Derived.Lib.SmallJoins
import Derived.Lib.SplitLaws
import Derived.RegionTactic
import Derived.Shelf.Strings.BuilderK
import Derived.Test.YtndcnflchkfaeaaDoorRows
import Derived.Test.YtndcnflchkfaeaaDoorShelf
import Derived.Test.YtndcnflchkfaeaaDoorK1
import Derived.Test.YtndcnflchkfaeaaDoorK9
import Derived.Test.YtndcnflchkfaeaaDoorK10
import Derived.Test.YtndcnflchkfaeaaDoorK12
import Derived.Test.YtndcnflchkfaeaaDoorK15
import Derived.Test.YtndcnflchkfaeaaDoorK16
import Derived.Test.YtndcnflchkfaeaaDoorK17
import Derived.Test.YtndcnflchkfaeaaDoorK30
import Derived.Test.YtndcnflchkfaeaaDoorK31
namespace Go.Proofs.YtndcnflchkfaeaaDoor
open Go.RowKit
set_option linter.unusedVariables false
set_option linter.unusedSimpArgs false
theorem place_yes {P id:Int}{T R:List Visit4}{k:Nat}{x:Int}(hv:deskValid ⟨P,T,R⟩=true)(hi:idxOf id T=some k)(hx:(bookPlaces T)[k]? =some x):deskPlace ⟨P,T,R⟩ id=x:=by
 unfold deskPlace;rw[if_pos hv];simp[hi,hx]
theorem place_no {P id:Int}{T R:List Visit4}(hi:noBook id T=true):deskPlace ⟨P,T,R⟩ id= -1:=by
 unfold deskPlace;split
 ·simp[idx_none hi]
 ·rfl
theorem place_bad {P id:Int}{T R:List Visit4}(hv:deskValid ⟨P,T,R⟩=false):deskPlace ⟨P,T,R⟩ id= -1:=by
 unfold deskPlace;simp[hv]
set_option maxRecDepth 100000 in
set_option maxHeartbeats 8000000 in
theorem specDp_bad (P:Int)(q:Option Addr)(m c2:Nat)(q2:Option Addr)(m2 d2:Nat)(id:Int)(X:Int)(w:World)(HF:Hid (∀w',Ext w w'→Calls Tryd.prog 47 #[.slice q m c2,.int .i64 id] w' fun e w''=>e= .returned (.int .i64 X)∧Ext w' w''))(HV:Hid (∀w',Ext w w'→Calls Tryd.prog 11 #[.agg #[.int .i64 P,.slice q m c2,.slice q2 m2 d2]] w' fun e w''=>e= .returned (.bool false)∧Ext w' w'')):
  Calls Tryd.prog 33 #[.agg #[.int .i64 P,.slice q m c2,.slice q2 m2 d2],.int .i64 id] w fun e w'=>e= .returned (.int .i64 (-1))∧Ext w w':=by
 go_enter Tryd.func33,Tryd.ntmps33
 go_wp2_with fail
 refine(HF.out _ (((Mem.start w).blkNew TDk #[.int .i64 P,.slice q m c2,.slice q2 m2 d2] (w.heap.size) (by simp))).ext).mono ?_
 rintro e w1 ⟨rfl,hx1⟩
 have M1:=Lib.hid ((((Mem.start w).blkNew TDk #[.int .i64 P,.slice q m c2,.slice q2 m2 d2] (w.heap.size) (by simp))).adv hx1)
 have lt1_0:w.heap.size<w1.heap.size:=(M1.out.lt (i:=0) rfl rfl).2
 clear hx1
 obtain⟨ca0,ca1,ca2⟩:=(M1.out.blk (i:=0) rfl).tri
 go_wp2_with fail
 clear ca0 ca1 ca2
 refine(HV.out _ (M1.out).ext).mono ?_
 rintro e w2 ⟨rfl,hx2⟩
 have M2:=Lib.hid ((M1.out).adv hx2)
 clear M1
 clear lt1_0
 have lt2_0:w.heap.size<w2.heap.size:=(M2.out.lt (i:=0) rfl rfl).2
 clear hx2
 go_wp2
 go_ret
 exact⟨rfl,M2.out.ext⟩
set_option maxRecDepth 100000 in
set_option maxHeartbeats 8000000 in
theorem specDp_no (P:Int)(q:Option Addr)(m c2:Nat)(q2:Option Addr)(m2 d2:Nat)(id:Int)(w:World)(HF:Hid (∀w',Ext w w'→Calls Tryd.prog 47 #[.slice q m c2,.int .i64 id] w' fun e w''=>e= .returned (.int .i64 (-1))∧Ext w' w''))(HV:Hid (∀w',Ext w w'→Calls Tryd.prog 11 #[.agg #[.int .i64 P,.slice q m c2,.slice q2 m2 d2]] w' fun e w''=>e= .returned (.bool true)∧Ext w' w'')):
  Calls Tryd.prog 33 #[.agg #[.int .i64 P,.slice q m c2,.slice q2 m2 d2],.int .i64 id] w fun e w'=>e= .returned (.int .i64 (-1))∧Ext w w':=by
 go_enter Tryd.func33,Tryd.ntmps33
 go_wp2_with fail
 refine(HF.out _ (((Mem.start w).blkNew TDk #[.int .i64 P,.slice q m c2,.slice q2 m2 d2] (w.heap.size) (by simp))).ext).mono ?_
 rintro e w1 ⟨rfl,hx1⟩
 have M1:=Lib.hid ((((Mem.start w).blkNew TDk #[.int .i64 P,.slice q m c2,.slice q2 m2 d2] (w.heap.size) (by simp))).adv hx1)
 have lt1_0:w.heap.size<w1.heap.size:=(M1.out.lt (i:=0) rfl rfl).2
 clear hx1
 obtain⟨ca0,ca1,ca2⟩:=(M1.out.blk (i:=0) rfl).tri
 go_wp2_with fail
 clear ca0 ca1 ca2
 refine(HV.out _ (M1.out).ext).mono ?_
 rintro e w2 ⟨rfl,hx2⟩
 have M2:=Lib.hid ((M1.out).adv hx2)
 clear M1
 clear lt1_0
 have lt2_0:w.heap.size<w2.heap.size:=(M2.out.lt (i:=0) rfl rfl).2
 clear hx2
 go_wp2
 go_ret
 exact⟨rfl,M2.out.ext⟩
set_option maxRecDepth 100000 in
set_option maxHeartbeats 8000000 in
theorem specDp_yes (P:Int)(q:Option Addr)(m c2:Nat)(q2:Option Addr)(m2 d2:Nat)(id:Int)(k:Nat)(x:Int)(ys:List Int)(hk:k<ys.length)(hy:Hid (ys[k]? =some x)) (w:World) (HF:Hid (∀w',Ext w w'→Calls Tryd.prog 47 #[.slice q m c2,.int .i64 id] w' fun e w''=>e= .returned (.int .i64 (k:Int))∧Ext w' w'')) (HV:Hid (∀w',Ext w w'→Calls Tryd.prog 11 #[.agg #[.int .i64 P,.slice q m c2,.slice q2 m2 d2]] w' fun e w''=>e= .returned (.bool true)∧Ext w' w'')) (HB:Hid (∀w',Ext w w'→Calls Tryd.prog 66 #[.slice q m c2] w' (RetInts ys w'))):
  Calls Tryd.prog 33 #[.agg #[.int .i64 P,.slice q m c2,.slice q2 m2 d2],.int .i64 id] w fun e w'=>e= .returned (.int .i64 x)∧Ext w w':=by
 go_enter Tryd.func33,Tryd.ntmps33
 go_wp2_with fail
 refine(HF.out _ (((Mem.start w).blkNew TDk #[.int .i64 P,.slice q m c2,.slice q2 m2 d2] (w.heap.size) (by simp))).ext).mono ?_
 rintro e w1 ⟨rfl,hx1⟩
 have M1:=Lib.hid ((((Mem.start w).blkNew TDk #[.int .i64 P,.slice q m c2,.slice q2 m2 d2] (w.heap.size) (by simp))).adv hx1)
 have lt1_0:w.heap.size<w1.heap.size:=(M1.out.lt (i:=0) rfl rfl).2
 clear hx1
 obtain⟨ca0,ca1,ca2⟩:=(M1.out.blk (i:=0) rfl).tri
 go_wp2_with fail
 clear ca0 ca1 ca2
 refine(HV.out _ (M1.out).ext).mono ?_
 rintro e w2 ⟨rfl,hx2⟩
 have M2:=Lib.hid ((M1.out).adv hx2)
 clear M1
 clear lt1_0
 have lt2_0:w.heap.size<w2.heap.size:=(M2.out.lt (i:=0) rfl rfl).2
 clear hx2
 obtain⟨ca0,ca1,ca2⟩:=(M2.out.blk (i:=0) rfl).tri
 go_wp2_with fail
 clear ca0 ca1 ca2
 refine(HB.out _ (M2.out).ext).mono ?_
 rintro e w3 ⟨pz,cz,rfl,hoz,hx3⟩
 have SZ:=Sl.own hoz
 have M3:=Lib.hid ((M2.out).adv hx3)
 clear M2
 clear lt2_0
 have lt3_0:w.heap.size<w3.heap.size:=(M3.out.lt (i:=0) rfl rfl).2
 clear hx3
 obtain⟨bz,oz,x',rfl,hx',hbz,hcz⟩:=SZ.int_at (k:=k) hk
 rw[hy.out]at hx'
 cases hx'
 have i1:(0:Int)≤(k:Int):=by omega
 have i2:(k:Int)<(ys.length:Int):=by omega
 clear hoz SZ
 go_wp2
 go_ret
 exact⟨rfl,M3.out.ext⟩
theorem specDp (d:DeskD)(q:Option Addr)(c2:Nat)(q2:Option Addr)(d2:Nat)(id:Int)(w:World)(hi:IsDesk w d q c2 q2 d2):
  Calls Tryd.prog 33 #[deskV d.places q d.taken.length c2 q2 d.row.length d2,.int .i64 id] w fun e w'=>e= .returned (.int .i64 (deskPlace d id))∧Ext w w':=by
 obtain⟨P,T,R⟩:=d
 have HV0: ∀w',Ext w w'→Calls Tryd.prog 11 #[deskV P q T.length c2 q2 R.length d2] w' fun e w''=>e= .returned (.bool (deskValid ⟨P,T,R⟩))∧Ext w' w'':=fun w' hx=>specDv P q T.length c2 q2 R.length d2 T R w' (hi.tk.ext hx) (hi.rw.ext hx)
 have HF0: ∀w',Ext w w'→Calls Tryd.prog 47 #[.slice q T.length c2,.int .i64 id] w' fun e w''=>e= .returned (.int .i64 (vix id T))∧Ext w' w'':=fun w' hx=>l6Find_any id q T.length c2 T w' (hi.tk.ext hx)
 cases hv:deskValid ⟨P,T,R⟩with
 |false=>
  rw[place_bad hv]
  rw[hv]at HV0
  exact specDp_bad P q T.length c2 q2 R.length d2 id (vix id T) w HF0 HV0
 |true=>
  rw[hv]at HV0
  cases hn:noBook id T with
  |true=>
   rw[place_no hn]
   rw[vix_neg hn]at HF0
   exact specDp_no P q T.length c2 q2 R.length d2 id w HF0 HV0
  |false=>
   obtain⟨k,hk,hx,hi2⟩:=vix_pos hn
   rw[hx]at HF0
   have hok:booksOk T=true:=(desk_iff.1 hv).ok
   have hpl:=places_len hok
   obtain⟨x,hxx⟩: ∃x,(bookPlaces T)[k]? =some x:=⟨_,List.getElem?_eq_getElem (by omega)⟩
   rw[place_yes hv hi2 hxx]
   obtain⟨b,off,rfl,_,_⟩:=hi.tk.rd (show 0<T.length by omega)
   exact specDp_yes P _ T.length c2 q2 R.length d2 id k x (bookPlaces T) (by omega) hxx w HF0 HV0 (fun w' hx=>specBp b off T.length c2 T w' hok (by omega) (hi.tk.ext hx))
set_option maxRecDepth 100000 in
set_option maxHeartbeats 8000000 in
theorem implDp_bad (P:Int)(q:Option Addr)(m c2:Nat)(q2:Option Addr)(m2 d2:Nat)(id:Int)(w:World)(HV:Hid (∀w',Ext w w'→Calls Tryd.prog 10 #[.agg #[.int .i64 P,.slice q m c2,.slice q2 m2 d2]] w' fun e w''=>e= .returned (.bool false)∧Ext w' w'')):
  Calls Tryd.prog 32 #[.agg #[.int .i64 P,.slice q m c2,.slice q2 m2 d2],.int .i64 id] w fun e w'=>e= .returned (.int .i64 (-1))∧Ext w w':=by
 go_enter Tryd.func32,Tryd.ntmps32
 go_wp2_with fail
 refine(HV.out _ (((Mem.start w).blkNew TDk #[.int .i64 P,.slice q m c2,.slice q2 m2 d2] (w.heap.size) (by simp))).ext).mono ?_
 rintro e w1 ⟨rfl,hx1⟩
 have M1:=Lib.hid ((((Mem.start w).blkNew TDk #[.int .i64 P,.slice q m c2,.slice q2 m2 d2] (w.heap.size) (by simp))).adv hx1)
 have lt1_0:w.heap.size<w1.heap.size:=(M1.out.lt (i:=0) rfl rfl).2
 clear hx1
 go_wp2
 go_ret
 exact⟨rfl,M1.out.ext⟩
set_option maxRecDepth 100000 in
set_option maxHeartbeats 8000000 in
theorem implDp_no (P:Int)(q:Option Addr)(m c2:Nat)(q2:Option Addr)(m2 d2:Nat)(id:Int)(w:World)(HF:Hid (∀w',Ext w w'→Calls Tryd.prog 42 #[.slice q m c2,.int .i64 id] w' fun e w''=>e= .returned (.int .i64 (-1))∧Ext w' w''))(HV:Hid (∀w',Ext w w'→Calls Tryd.prog 10 #[.agg #[.int .i64 P,.slice q m c2,.slice q2 m2 d2]] w' fun e w''=>e= .returned (.bool true)∧Ext w' w'')):
  Calls Tryd.prog 32 #[.agg #[.int .i64 P,.slice q m c2,.slice q2 m2 d2],.int .i64 id] w fun e w'=>e= .returned (.int .i64 (-1))∧Ext w w':=by
 go_enter Tryd.func32,Tryd.ntmps32
 go_wp2_with fail
 refine(HV.out _ (((Mem.start w).blkNew TDk #[.int .i64 P,.slice q m c2,.slice q2 m2 d2] (w.heap.size) (by simp))).ext).mono ?_
 rintro e w1 ⟨rfl,hx1⟩
 have M1:=Lib.hid ((((Mem.start w).blkNew TDk #[.int .i64 P,.slice q m c2,.slice q2 m2 d2] (w.heap.size) (by simp))).adv hx1)
 have lt1_0:w.heap.size<w1.heap.size:=(M1.out.lt (i:=0) rfl rfl).2
 clear hx1
 obtain⟨ca0,ca1,ca2⟩:=(M1.out.blk (i:=0) rfl).tri
 go_wp2_with fail
 clear ca0 ca1 ca2
 refine(HF.out _ (M1.out).ext).mono ?_
 rintro e w2 ⟨rfl,hx2⟩
 have M2:=Lib.hid ((M1.out).adv hx2)
 clear M1
 clear lt1_0
 have lt2_0:w.heap.size<w2.heap.size:=(M2.out.lt (i:=0) rfl rfl).2
 clear hx2
 go_wp2
 go_ret
 exact⟨rfl,M2.out.ext⟩
set_option maxRecDepth 100000 in
set_option maxHeartbeats 8000000 in
theorem implDp_yes (P:Int)(q:Option Addr)(m c2:Nat)(q2:Option Addr)(m2 d2:Nat)(id:Int)(k:Nat)(x:Int)(ys:List Int)(hk:k<ys.length)(hy:Hid (ys[k]? =some x)) (w:World) (HF:Hid (∀w',Ext w w'→Calls Tryd.prog 42 #[.slice q m c2,.int .i64 id] w' fun e w''=>e= .returned (.int .i64 (k:Int))∧Ext w' w'')) (HV:Hid (∀w',Ext w w'→Calls Tryd.prog 10 #[.agg #[.int .i64 P,.slice q m c2,.slice q2 m2 d2]] w' fun e w''=>e= .returned (.bool true)∧Ext w' w'')) (HB:Hid (∀w',Ext w w'→Calls Tryd.prog 65 #[.slice q m c2] w' (RetInts ys w'))):
  Calls Tryd.prog 32 #[.agg #[.int .i64 P,.slice q m c2,.slice q2 m2 d2],.int .i64 id] w fun e w'=>e= .returned (.int .i64 x)∧Ext w w':=by
 go_enter Tryd.func32,Tryd.ntmps32
 go_wp2_with fail
 refine(HV.out _ (((Mem.start w).blkNew TDk #[.int .i64 P,.slice q m c2,.slice q2 m2 d2] (w.heap.size) (by simp))).ext).mono ?_
 rintro e w1 ⟨rfl,hx1⟩
 have M1:=Lib.hid ((((Mem.start w).blkNew TDk #[.int .i64 P,.slice q m c2,.slice q2 m2 d2] (w.heap.size) (by simp))).adv hx1)
 have lt1_0:w.heap.size<w1.heap.size:=(M1.out.lt (i:=0) rfl rfl).2
 clear hx1
 obtain⟨ca0,ca1,ca2⟩:=(M1.out.blk (i:=0) rfl).tri
 go_wp2_with fail
 clear ca0 ca1 ca2
 refine(HF.out _ (M1.out).ext).mono ?_
 rintro e w2 ⟨rfl,hx2⟩
 have M2:=Lib.hid ((M1.out).adv hx2)
 clear M1
 clear lt1_0
 have lt2_0:w.heap.size<w2.heap.size:=(M2.out.lt (i:=0) rfl rfl).2
 clear hx2
 obtain⟨ca0,ca1,ca2⟩:=(M2.out.blk (i:=0) rfl).tri
 go_wp2_with fail
 clear ca0 ca1 ca2
 refine(HB.out _ (M2.out).ext).mono ?_
 rintro e w3 ⟨pz,cz,rfl,hoz,hx3⟩
 have SZ:=Sl.own hoz
 have M3:=Lib.hid ((M2.out).adv hx3)
 clear M2
 clear lt2_0
 have lt3_0:w.heap.size<w3.heap.size:=(M3.out.lt (i:=0) rfl rfl).2
 clear hx3
 obtain⟨bz,oz,x',rfl,hx',hbz,hcz⟩:=SZ.int_at (k:=k) hk
 rw[hy.out]at hx'
 cases hx'
 have i1:(0:Int)≤(k:Int):=by omega
 have i2:(k:Int)<(ys.length:Int):=by omega
 clear hoz SZ
 go_wp2
 go_ret
 exact⟨rfl,M3.out.ext⟩
theorem implDp (d:DeskD)(q:Option Addr)(c2:Nat)(q2:Option Addr)(d2:Nat)(id:Int)(w:World)(hi:IsDesk w d q c2 q2 d2):
  Calls Tryd.prog 32 #[deskV d.places q d.taken.length c2 q2 d.row.length d2,.int .i64 id] w fun e w'=>e= .returned (.int .i64 (deskPlace d id))∧Ext w w':=by
 obtain⟨P,T,R⟩:=d
 have HV0: ∀w',Ext w w'→Calls Tryd.prog 10 #[deskV P q T.length c2 q2 R.length d2] w' fun e w''=>e= .returned (.bool (deskValid ⟨P,T,R⟩))∧Ext w' w'':=fun w' hx=>implDv P q T.length c2 q2 R.length d2 T R w' (hi.tk.ext hx) (hi.rw.ext hx)
 have HF0: ∀w',Ext w w'→Calls Tryd.prog 42 #[.slice q T.length c2,.int .i64 id] w' fun e w''=>e= .returned (.int .i64 (vix id T))∧Ext w' w'':=fun w' hx=>bookIndex_any id q T.length c2 T w' (hi.tk.ext hx)
 cases hv:deskValid ⟨P,T,R⟩with
 |false=>
  rw[place_bad hv]
  rw[hv]at HV0
  exact implDp_bad P q T.length c2 q2 R.length d2 id w HV0
 |true=>
  rw[hv]at HV0
  cases hn:noBook id T with
  |true=>
   rw[place_no hn]
   rw[vix_neg hn]at HF0
   exact implDp_no P q T.length c2 q2 R.length d2 id w HF0 HV0
  |false=>
   obtain⟨k,hk,hx,hi2⟩:=vix_pos hn
   rw[hx]at HF0
   have hok:booksOk T=true:=(desk_iff.1 hv).ok
   have hpl:=places_len hok
   obtain⟨x,hxx⟩: ∃x,(bookPlaces T)[k]? =some x:=⟨_,List.getElem?_eq_getElem (by omega)⟩
   rw[place_yes hv hi2 hxx]
   obtain⟨b,off,rfl,_,_⟩:=hi.tk.rd (show 0<T.length by omega)
   exact implDp_yes P _ T.length c2 q2 R.length d2 id k x (bookPlaces T) (by omega) hxx w HF0 HV0 (fun w' hx=>implBp b off T.length c2 T w' hok (by omega) (hi.tk.ext hx))
end Go.Proofs.YtndcnflchkfaeaaDoor

namespace Go.Proofs.YtndcnflchkfaeaaDoor
open Go.RowKit
set_option linter.unusedVariables false
def lays166_ren:Go.Shelf.Ren:=⟨fun|166=>74|240=>89|276=>105|n=>n,fun|0=>0|3=>3|4=>4|5=>5|9=>9|20=>20|37=>22|70=>83|72=>85|75=>87|80=>92|164=>121|n=>n,fun|n=>n⟩
theorem lays166:Go.Proofs.Lays.n166 Tryd.prog lays166_ren:={
 mixed:=by kernel_rfl,
 f166:=Tryd.func74.trans (congrArg some (by kernel_rfl)),
 f240:=Tryd.func89.trans (congrArg some (by kernel_rfl)),
 f276:=Tryd.func105.trans (congrArg some (by kernel_rfl)),
 t0:=Tryd.underlying0,
 a0:=Tryd.isAgg0,
 z0:=Tryd.sizeOf0,
 v0:=Tryd.zeroValue0,
 t3:=Tryd.underlying3,
 a3:=Tryd.isAgg3,
 z3:=Tryd.sizeOf3,
 v3:=Tryd.zeroValue3,
 t4:=Tryd.underlying4,
 a4:=Tryd.isAgg4,
 z4:=Tryd.sizeOf4,
 v4:=Tryd.zeroValue4,
 t9:=Tryd.underlying9,
 a9:=Tryd.isAgg9,
 z9:=Tryd.sizeOf9,
 v9:=Tryd.zeroValue9,
 t20:=Tryd.underlying20,
 a20:=Tryd.isAgg20,
 z20:=Tryd.sizeOf20,
 v20:=Tryd.zeroValue20,
 t37:=Tryd.underlying22,
 a37:=Tryd.isAgg22,
 z37:=Tryd.sizeOf22,
 v37:=Tryd.zeroValue22,
 t70:=Tryd.underlying83,
 a70:=Tryd.isAgg83,
 z70:=Tryd.sizeOf83,
 v70:=Tryd.zeroValue83,
 t72:=Tryd.underlying85,
 a72:=Tryd.isAgg85,
 z72:=Tryd.sizeOf85,
 v72:=Tryd.zeroValue85,
 t75:=Tryd.underlying87,
 a75:=Tryd.isAgg87,
 z75:=Tryd.sizeOf87,
 v75:=Tryd.zeroValue87,
 t164:=Tryd.underlying121,
 a164:=Tryd.isAgg121,
 z164:=Tryd.sizeOf121,
 v164:=Tryd.zeroValue121}
theorem extra166:Go.Proofs.Builder.Extra Tryd.prog lays166_ren:={
 sizeBuilder:=by kernel_rfl
 liesBuilder:=by kernel_rfl
 t5:=Tryd.underlying5
 a5:=Tryd.isAgg5
 z5:=Tryd.sizeOf5
 v5:=Tryd.zeroValue5
 infoByte:=by kernel_rfl
 cellsByte:=by kernel_rfl
 sizeByte:=by kernel_rfl
 neB5:=by decide}
def lays167_ren:Go.Shelf.Ren:=⟨fun|167=>73|240=>89|276=>105|n=>n,fun|0=>0|3=>3|4=>4|5=>5|9=>9|20=>20|37=>22|70=>83|72=>85|75=>87|80=>92|164=>121|n=>n,fun|n=>n⟩
theorem lays167:Go.Proofs.Lays.n167 Tryd.prog lays167_ren:={
 mixed:=by kernel_rfl,
 f167:=Tryd.func73.trans (congrArg some (by kernel_rfl)),
 f240:=Tryd.func89.trans (congrArg some (by kernel_rfl)),
 f276:=Tryd.func105.trans (congrArg some (by kernel_rfl)),
 t0:=Tryd.underlying0,
 a0:=Tryd.isAgg0,
 z0:=Tryd.sizeOf0,
 v0:=Tryd.zeroValue0,
 t4:=Tryd.underlying4,
 a4:=Tryd.isAgg4,
 z4:=Tryd.sizeOf4,
 v4:=Tryd.zeroValue4,
 t5:=Tryd.underlying5,
 a5:=Tryd.isAgg5,
 z5:=Tryd.sizeOf5,
 v5:=Tryd.zeroValue5,
 t9:=Tryd.underlying9,
 a9:=Tryd.isAgg9,
 z9:=Tryd.sizeOf9,
 v9:=Tryd.zeroValue9,
 t20:=Tryd.underlying20,
 a20:=Tryd.isAgg20,
 z20:=Tryd.sizeOf20,
 v20:=Tryd.zeroValue20,
 t37:=Tryd.underlying22,
 a37:=Tryd.isAgg22,
 z37:=Tryd.sizeOf22,
 v37:=Tryd.zeroValue22,
 t70:=Tryd.underlying83,
 a70:=Tryd.isAgg83,
 z70:=Tryd.sizeOf83,
 v70:=Tryd.zeroValue83,
 t72:=Tryd.underlying85,
 a72:=Tryd.isAgg85,
 z72:=Tryd.sizeOf85,
 v72:=Tryd.zeroValue85,
 t75:=Tryd.underlying87,
 a75:=Tryd.isAgg87,
 z75:=Tryd.sizeOf87,
 v75:=Tryd.zeroValue87,
 t164:=Tryd.underlying121,
 a164:=Tryd.isAgg121,
 z164:=Tryd.sizeOf121,
 v164:=Tryd.zeroValue121}
theorem extra167:Go.Proofs.Builder.Extra Tryd.prog lays167_ren:={
 sizeBuilder:=by kernel_rfl
 liesBuilder:=by kernel_rfl
 t5:=Tryd.underlying5
 a5:=Tryd.isAgg5
 z5:=Tryd.sizeOf5
 v5:=Tryd.zeroValue5
 infoByte:=by kernel_rfl
 cellsByte:=by kernel_rfl
 sizeByte:=by kernel_rfl
 neB5:=by decide}
theorem WriteString_k (B b:Nat)(bs:List Value)(s:ByteArray)(w:World)(h:Lib.IsBuilderF 85 5 B b bs w)(hl:bs.length+s.size≤140737488355328)(hB:B≤w.heap.size):
  Calls Tryd.prog 74 #[.pointer (some ⟨b,0,none⟩),.string s] w fun e w'=>e= .returned (.tuple #[.int .i64 s.size,.nilIface])∧Lib.BuilderAtF 85 5 B b (.pointer (some ⟨b,0,none⟩)) (bs++Lib.strCells s) w'∧Below B w w'∧Lib.OthersKept 5 (some b) w w':=
 Any.Builder_WriteString_k lays166 extra166 B b bs s w h hl hB
theorem WriteByte_k (B b:Nat)(bs:List Value)(c:Int)(w:World)(h:Lib.IsBuilderF 85 5 B b bs w)(hl:bs.length+1≤140737488355328)(hB:B≤w.heap.size):
  Calls Tryd.prog 73 #[.pointer (some ⟨b,0,none⟩),.int .u8 c] w fun e w'=>e= .returned .nilIface∧Lib.BuilderAtF 85 5 B b (.pointer (some ⟨b,0,none⟩)) (bs++ [.int .u8 c]) w'∧Below B w w'∧Lib.OthersKept 5 (some b) w w':=
 Any.Builder_WriteByte_k lays167 extra167 B b bs c w h hl hB
end Go.Proofs.YtndcnflchkfaeaaDoor

namespace Go.Proofs.YtndcnflchkfaeaaDoor
open Go.RowKit
set_option linter.unusedVariables false
theorem gTab:Tryd.prog.globalNamed "internal/strconv.uint64pow10" =some 0:=by kernel_rfl
structure Env (w:World):Prop where
 tab:Lib.TabIs Tryd.prog w "internal/strconv.uint64pow10" .u64 Lib.pow10Tab
theorem Env.ext {w w':World}(h:Env w)(hb:Ext w w'):Env w' where
 tab:=Joins.var_stays gTab h.tab hb (Nat.le_refl _)
theorem Env.start {w:World}(ht:Lib.TabIs Tryd.prog w "internal/strconv.uint64pow10" .u64 Lib.pow10Tab)(hS:w.ShapedOpen Tryd.prog):Env w where
 tab:=ht
abbrev str (l:List UInt8):Value:= .string ⟨l.toArray⟩
theorem itoa_nat (n:Nat):Lib.itoa (n:Int)=Lib.decDigits n:=by
 unfold Lib.itoa;rw[if_neg (by omega)];simp
theorem ext_grow (w:World)(os:Array Obj):Ext w (Sort.grow w os):=
 ⟨rfl,rfl,rfl,by simp,fun k hk=>by simp only[Sort.grow];rw[Array.getElem?_append_left hk]⟩
theorem itoa_any (n:Nat)(w:World)(hn:n≤9223372036854775807)(hE:Env w):
  Calls Tryd.prog 75 #[.int .i64 n] w fun e w'=>e= .returned (str (Lib.decDigits n))∧Ext w w':=by
 refine(Tryd.strconv_Itoa (n:Int) (by omega) (by omega) w hE.tab).mono ?_
 rintro e w' ⟨rfl,k,os,rfl⟩
 exact⟨by rw[itoa_nat],(Ext.drewN (Ext.refl w) k).trans (ext_grow _ _)⟩
theorem itoaI (n:Int)(w:World)(h0:0≤n)(hn:n≤9223372036854775807)(hE:Env w):
  Calls Tryd.prog 75 #[.int .i64 n] w fun e w'=>e= .returned (str (Lib.decDigits n.toNat))∧Ext w w':=by
 obtain⟨m,rfl⟩:=Int.eq_ofNat_of_zero_le h0
 exact itoa_any m w (by omega) hE
theorem decDigits_lt (n:Nat)(h:n<10):Lib.decDigits n= [UInt8.ofNat (48+n)]:=by rw[Lib.decDigits];simp[h]
theorem decDigits_len (n:Nat)(h:n≤9223372036854775807):(Lib.decDigits n).length≤21:=by
 rw[←itoa_nat];exact Lib.itoa_length_le _ (by omega) (by omega)
end Go.Proofs.YtndcnflchkfaeaaDoor

namespace Go.Proofs.YtndcnflchkfaeaaDoor
open Go.RowKit
set_option linter.unusedVariables false
abbrev Deed3:=Int×Int×Int
end Go.Proofs.YtndcnflchkfaeaaDoor

namespace Go.Proofs.YtndcnflchkfaeaaDoor
open Go.RowKit
set_option linter.unusedVariables false
/-! ### slices of structs -/
theorem Rd.at {α:Type}{f:α→List Value}{w:World}{b off n cap sz:Nat}{xs:List α}(hf: ∀a,(f a).length=sz)(h:Rd w (.slice (some ⟨b,off,none⟩) n cap) n sz (xs.flatMap f)){k:Nat}{a:α}(hk:xs[k]? =some a) (hn:xs.length=n) (j:Nat) (hj:j<sz):
  w.cell? ⟨b,off+k*sz+j,none⟩=(f a)[j]? :=by
 rcases h.2 with⟨h1,_⟩|⟨b',off',cap',h1,_,_,_,h2⟩
 ·simp at h1
 ·simp only[Value.slice.injEq,Option.some.injEq,Addr.mk.injEq,and_true,true_and]at h1
  obtain⟨⟨rfl,rfl⟩,rfl⟩:=h1
  have hkn:k<n:=by rw[←hn];exact(List.getElem?_eq_some_iff.1 hk).1
  have hlt:k*sz+j<n*sz:=by
   have:(k+1)*sz≤n*sz:=Nat.mul_le_mul_right sz hkn
   rw[Nat.succ_mul]at this;omega
  rw[Nat.add_assoc,h2 _ hlt,flat_get f sz hf xs k a hk j hj]
def deedCells (d:Deed3):List Value:= [.int .i64 d.1,.int .i64 d.2.1,.int .i64 d.2.2]
abbrev RdDeeds (w:World)(v:Value)(ds:List Deed3):Prop:=Rd w v ds.length 3 (ds.flatMap deedCells)
theorem RdDeeds.at {w:World}{b off n cap:Nat}{ds:List Deed3}(h:Rd w (.slice (some ⟨b,off,none⟩) n cap) n 3 (ds.flatMap deedCells))(hn:ds.length=n){k:Nat}{d:Deed3}(hk:ds[k]? =some d):
  w.cell? ⟨b,off+k*3,none⟩=some (.int .i64 d.1)∧w.cell? ⟨b,off+k*3+1,none⟩=some (.int .i64 d.2.1)∧w.cell? ⟨b,off+k*3+2,none⟩=some (.int .i64 d.2.2):=
 ⟨h.at (f:=deedCells) (fun _=>rfl) hk hn 0 (by omega),h.at (f:=deedCells) (fun _=>rfl) hk hn 1 (by omega),h.at (f:=deedCells) (fun _=>rfl) hk hn 2 (by omega)⟩
/-! ### the text -/
/-! ### a builder while the world grows -/
theorem Ext.gb {w w':World}(h:Ext w w'):w.grownBy w' none:=⟨h.os,h.tape,h.output,h.size,fun k hk _=>h.block k hk⟩
theorem builderAt_ext {T e:TypeId}{B b:Nat}{p:Value}{bs:List Value}{w w':World}(h:Lib.BuilderAtF T e B b p bs w)(hx:Ext w w'):Lib.BuilderAtF T e B b p bs w':=by
 have hlt:=h.lt
 obtain⟨hB,v,hh,hown,hne⟩:=h
 exact⟨hB,v,by rw[hx.block b hlt];exact hh,hown.kept hx.gb (by cases v.ownBlock<;>simp),hne⟩
theorem builder_ext {T e:TypeId}{B b:Nat}{bs:List Value}{w w':World}(h:Lib.IsBuilderF T e B b bs w)(hx:Ext w w'):Lib.IsBuilderF T e B b bs w':=
 h.elim (fun q=> .inl (builderAt_ext q hx)) (fun q=> .inr (builderAt_ext q hx))
theorem ext_below {w wr w':World}{B:Nat}(h:Ext w wr)(hb:Below B wr w')(hB:w.heap.size≤B):Ext w w':=Below.trans h (Below.mono hb hB)
end Go.Proofs.YtndcnflchkfaeaaDoor

namespace Go.Proofs.YtndcnflchkfaeaaDoor
open Go.RowKit
set_option linter.unusedVariables false
theorem byteCells_append (a b:List UInt8):Lib.byteCells (a++b)=Lib.byteCells a++Lib.strCells ⟨b.toArray⟩:=by
 simp[Lib.byteCells,Lib.strCells]
end Go.Proofs.YtndcnflchkfaeaaDoor

namespace Go.Proofs.YtndcnflchkfaeaaDoor
open Go.RowKit
set_option linter.unusedVariables false
def cellTok (x:Int):List UInt8:=if x=0 then [46]else Lib.decDigits x.toNat
def cellSep (wide:Int)(k:Nat):List UInt8:=if k=0 then []else if(k:Int)%wide=0 then [47]else [44]
def hallTextN (wide:Int)(xs:List Int):Nat→List UInt8
 |0=> []
 |k+1=>hallTextN wide xs k++cellSep wide k++cellTok (xs[k]?.getD 0)
def hallText (wide deep:Int)(xs:List Int):List UInt8:=if hallOk wide deep xs then hallTextN wide xs xs.length else []
theorem cellTok_len (x:Int)(h:x≤99):(cellTok x).length≤21:=by
 unfold cellTok;split
 ·simp
 ·exact decDigits_len _ (by omega)
theorem hallTextN_len (wide:Int)(xs:List Int)(h: ∀x∈xs,x≤99): ∀k,(hallTextN wide xs k).length≤22*k:=by
 intro k
 induction k with
 |zero=>simp[hallTextN]
 |succ k ih=>
  have h1:(cellTok (xs[k]?.getD 0)).length≤21:=by
   refine cellTok_len _ ?_
   cases hx:xs[k]? with
   |none=>simp
   |some x=>exact h x (List.mem_of_getElem? hx)
  have h2:(cellSep wide k).length≤1:=by unfold cellSep;split;simp;split<;>simp
  simp only[hallTextN,List.length_append];omega
theorem hallTextN_step {wide:Int}{xs:List Int}{k:Nat}{x:Int}(h:xs[k]? =some x):hallTextN wide xs (k+1)=hallTextN wide xs k++cellSep wide k++cellTok x:=by
 simp[hallTextN,h]
theorem byteCells_one (a:List UInt8)(c:UInt8)(ci:Int)(hc:ci=(c.toNat:Int)):Lib.byteCells (a++ [c])=Lib.byteCells a++ [.int .u8 ci]:=by
 subst hc;simp[Lib.byteCells]
set_option maxRecDepth 100000 in
set_option maxHeartbeats 1000000 in
theorem implHallText_bad (wide deep:Int)(p:Option Addr)(n cap:Nat)(w:World)(HV:Hid (∀w',Ext w w'→Calls Tryd.prog 72 #[hallV wide deep p n cap] w' fun e w''=>e= .returned (.bool false)∧Ext w' w'')):
  Calls Tryd.prog 49 #[hallV wide deep p n cap] w fun e w'=>e= .returned (str [])∧Ext w w':=by
 go_enter Tryd.func49,Tryd.ntmps49
 go_wp2_with fail
 refine(HV.out _ (by exact .alloc (.refl _) _)).mono ?_
 rintro e w1 ⟨rfl,h1⟩
 go_wp2
 go_ret
 exact⟨rfl,by exact .trans (.alloc (.refl _) _) h1⟩
set_option maxRecDepth 100000 in
set_option maxHeartbeats 1000000 in
theorem implHallText_ok (wide deep:Int)(p:Option Addr)(n cap:Nat)(xs:List Int)(w:World)(hE0:Env w)(h0:2≤wide)(h1:wide≤4)(hn:n≤12)(hc: ∀x∈xs,0≤x∧x≤99)(HS:Hid (Sl w p n cap 1 (ivs xs)))
  (HV:Hid (∀w',Ext w w'→Calls Tryd.prog 72 #[hallV wide deep p n cap] w' fun e w''=>e= .returned (.bool true)∧Ext w' w'')):
  Calls Tryd.prog 49 #[hallV wide deep p n cap] w fun e w'=>e= .returned (str (hallTextN wide xs n))∧Ext w w':=by
 have HE0:=Lib.hid hE0
 have HC:=Lib.hid hc
 clear hE0 hc
 go_enter Tryd.func49,Tryd.ntmps49
 go_wp2_with fail
 refine(HV.out _ (by exact .alloc (.refl _) _)).mono ?_
 rintro e w1 ⟨rfl,h1'⟩
 have hz1:w.heap.size<w1.heap.size:=Nat.lt_of_lt_of_le (by simp) h1'.sz
 have ea:w1.cell? ⟨w.heap.size,0,none⟩=some (.int .i64 wide):=by rw[h1'.cells.1 _ _ (by simp)];simp
 have eb:w1.cell? ⟨w.heap.size,2,none⟩=some (.slice p n cap):=by rw[h1'.cells.1 _ _ (by simp)];simp
 have hx1:Ext w w1:=by exact .trans (.alloc (.refl _) _) h1'
 go_wp2
 go_loopw [12] (fun i wr=> ∃(k:Nat),k≤n∧i= .int .i64 k∧Lib.IsBuilderF 85 5 w1.heap.size w1.heap.size (Lib.byteCells (hallTextN wide xs k)) wr∧Ext w1 wr∧w1.heap.size<wr.heap.size) (fun i _=>n-(intOf i).toNat)
 case atStart=>exact⟨0,Nat.zero_le _,rfl,.inl ⟨Nat.le_refl _,.slice none 0 0,by rw[heap_alloc_new],World.ownsRowF_nil _ _ _ _,by simp[Value.ownBlock]⟩,(Ext.refl _).alloc _,by simp⟩
 case round=>
  obtain⟨k,hk,rfl,hbu,hE,hsw⟩:=hrel
  have HBU:=Lib.hid hbu
  clear hbu
  have hEw:Ext w wr:=hx1.trans hE
  have ea2:wr.cell? ⟨w.heap.size,0,none⟩=some (.int .i64 wide):=(hE.cells.1 _ _ hz1).trans ea
  have hbl:(Lib.byteCells (hallTextN wide xs k)).length≤300:=by
   have:=hallTextN_len wide xs (fun x hx=>(HC.out x hx).2) k
   simp[Lib.byteCells];omega
  by_cases hlt:k<n
  ·obtain⟨b,off,x,rfl,hx,hbs,hcell⟩:=(HS.out.ext hEw).int_at hlt
   obtain⟨hx0,hx1'⟩:=HC.out x (List.mem_of_getElem? hx)
   have HX:=Lib.hid hx
   clear hx
   have hfin:=Lib.hid (hallTextN_step (wide:=wide) HX.out)
   by_cases hk0:k=0
   ·have k1:((k:Int)==0)=true:=by simp[hk0]
    have hsep:Hid (cellSep wide k= []):=by show _=_;simp[cellSep,hk0]
    clear hk0
    by_cases hz:x=0
    ·have z1:(x==0)=true:=by simp[hz]
     have hacc:Hid (hallTextN wide xs (k+1)=hallTextN wide xs k++ [46]):=by show _=_;rw[hfin.out,hsep.out,List.append_nil];simp[cellTok,hz]
     clear hz
     go_wp2_with fail
     refine(WriteByte_k w1.heap.size w1.heap.size (Lib.byteCells (hallTextN wide xs k)) 46 _ HBU.out (by simp[Lib.byteCells]at hbl⊢;omega) (by omega)).mono ?_
     rintro e w3 ⟨rfl,h2,h3,_⟩
     have HB3:Hid (Lib.IsBuilderF 85 5 w1.heap.size w1.heap.size (Lib.byteCells (hallTextN wide xs (k+1))) w3):=by rw[hacc.out,byteCells_one _ 46 46 rfl];exact .inr h2
     have hE3:Ext w1 w3:=ext_below hE h3 (Nat.le_refl _)
     have hs3:w1.heap.size<w3.heap.size:=Nat.lt_of_lt_of_le hsw h3.size
     clear h2 h3
     go_wp2
     go_roundw
     case rel=>exact⟨k+1,by omega,by go_num,HB3.out,hE3,hs3⟩
     case measure=>simp[intOf];omega
    ·have z1:(x==0)=false:=by simp[hz]
     have hacc:Hid (hallTextN wide xs (k+1)=hallTextN wide xs k++Lib.decDigits x.toNat):=by show _=_;rw[hfin.out,hsep.out,List.append_nil];simp[cellTok,hz]
     clear hz
     have hdl:(Lib.decDigits x.toNat).length≤21:=decDigits_len _ (by omega)
     go_wp2_with fail
     refine(itoaI x _ hx0 (by omega) (HE0.out.ext (hx1.trans hE))).mono ?_
     rintro e w3 ⟨rfl,h3'⟩
     have HB2:=Lib.hid (builder_ext HBU.out h3')
     have hs3':w1.heap.size<w3.heap.size:=Nat.lt_of_lt_of_le hsw h3'.sz
     go_wp2_with fail
     refine(WriteString_k w1.heap.size w1.heap.size (Lib.byteCells (hallTextN wide xs k)) _ _ HB2.out (by simp[Lib.byteCells,ByteArray.size]at hbl⊢;omega) (by omega)).mono ?_
     rintro e w4 ⟨rfl,h2,h3,_⟩
     have HB3:Hid (Lib.IsBuilderF 85 5 w1.heap.size w1.heap.size (Lib.byteCells (hallTextN wide xs (k+1))) w4):=by rw[hacc.out,byteCells_append];exact .inr h2
     have hE3:Ext w1 w4:=ext_below (Ext.trans hE h3') h3 (Nat.le_refl _)
     have hs3:w1.heap.size<w4.heap.size:=Nat.lt_of_lt_of_le hs3' h3.size
     clear h2 h3
     go_wp2
     go_roundw
     case rel=>exact⟨k+1,by omega,by go_num,HB3.out,hE3,hs3⟩
     case measure=>simp[intOf];omega
   ·have k1:((k:Int)==0)=false:=by simp;omega
    by_cases hm:(k:Int)%wide=0
    ·have k2:((k:Int)%wide==0)=true:=by simp[hm]
     have hsep:Hid (cellSep wide k= [47]):=by show _=_;simp[cellSep,hk0,hm]
     clear hk0 hm
     go_wp2_with fail
     refine(WriteByte_k w1.heap.size w1.heap.size (Lib.byteCells (hallTextN wide xs k)) 47 _ HBU.out (by omega) (by omega)).mono ?_
     rintro e w2 ⟨rfl,h2,h3,_⟩
     have HBS:Hid (Lib.IsBuilderF 85 5 w1.heap.size w1.heap.size (Lib.byteCells (hallTextN wide xs k++ [47])) w2):=by rw[byteCells_one _ 47 47 rfl];exact .inr h2
     have hE2:Ext w1 w2:=ext_below hE h3 (Nat.le_refl _)
     have hs2:w1.heap.size<w2.heap.size:=Nat.lt_of_lt_of_le hsw h3.size
     clear h2 h3
     by_cases hz:x=0
     ·have z1:(x==0)=true:=by simp[hz]
      have hacc:Hid (hallTextN wide xs (k+1)=hallTextN wide xs k++ [47]++ [46]):=by show _=_;rw[hfin.out,hsep.out];simp[cellTok,hz]
      clear hz
      go_wp2_with fail
      refine(WriteByte_k w1.heap.size w1.heap.size (Lib.byteCells (hallTextN wide xs k++ [47])) 46 _ HBS.out (by simp[Lib.byteCells]at hbl⊢;omega) (by omega)).mono ?_
      rintro e w3 ⟨rfl,h2,h3,_⟩
      have HB3:Hid (Lib.IsBuilderF 85 5 w1.heap.size w1.heap.size (Lib.byteCells (hallTextN wide xs (k+1))) w3):=by rw[hacc.out,byteCells_one _ 46 46 rfl];exact .inr h2
      have hE3:Ext w1 w3:=ext_below hE2 h3 (Nat.le_refl _)
      have hs3:w1.heap.size<w3.heap.size:=Nat.lt_of_lt_of_le hs2 h3.size
      clear h2 h3
      go_wp2
      go_roundw
      case rel=>exact⟨k+1,by omega,by go_num,HB3.out,hE3,hs3⟩
      case measure=>simp[intOf];omega
     ·have z1:(x==0)=false:=by simp[hz]
      have hacc:Hid (hallTextN wide xs (k+1)=hallTextN wide xs k++ [47]++Lib.decDigits x.toNat):=by show _=_;rw[hfin.out,hsep.out];simp[cellTok,hz]
      clear hz
      have hdl:(Lib.decDigits x.toNat).length≤21:=decDigits_len _ (by omega)
      go_wp2_with fail
      refine(itoaI x _ hx0 (by omega) (HE0.out.ext (hx1.trans hE2))).mono ?_
      rintro e w3 ⟨rfl,h3'⟩
      have HB2:=Lib.hid (builder_ext HBS.out h3')
      have hs3':w1.heap.size<w3.heap.size:=Nat.lt_of_lt_of_le hs2 h3'.sz
      go_wp2_with fail
      refine(WriteString_k w1.heap.size w1.heap.size (Lib.byteCells (hallTextN wide xs k++ [47])) _ _ HB2.out (by simp[Lib.byteCells,ByteArray.size]at hbl⊢;omega) (by omega)).mono ?_
      rintro e w4 ⟨rfl,h2,h3,_⟩
      have HB3:Hid (Lib.IsBuilderF 85 5 w1.heap.size w1.heap.size (Lib.byteCells (hallTextN wide xs (k+1))) w4):=by rw[hacc.out,byteCells_append];exact .inr h2
      have hE3:Ext w1 w4:=ext_below (Ext.trans hE2 h3') h3 (Nat.le_refl _)
      have hs3:w1.heap.size<w4.heap.size:=Nat.lt_of_lt_of_le hs3' h3.size
      clear h2 h3
      go_wp2
      go_roundw
      case rel=>exact⟨k+1,by omega,by go_num,HB3.out,hE3,hs3⟩
      case measure=>simp[intOf];omega
    ·have k2:((k:Int)%wide==0)=false:=by simp[hm]
     have hsep:Hid (cellSep wide k= [44]):=by show _=_;simp[cellSep,hk0,hm]
     clear hk0 hm
     go_wp2_with fail
     refine(WriteByte_k w1.heap.size w1.heap.size (Lib.byteCells (hallTextN wide xs k)) 44 _ HBU.out (by omega) (by omega)).mono ?_
     rintro e w2 ⟨rfl,h2,h3,_⟩
     have HBS:Hid (Lib.IsBuilderF 85 5 w1.heap.size w1.heap.size (Lib.byteCells (hallTextN wide xs k++ [44])) w2):=by rw[byteCells_one _ 44 44 rfl];exact .inr h2
     have hE2:Ext w1 w2:=ext_below hE h3 (Nat.le_refl _)
     have hs2:w1.heap.size<w2.heap.size:=Nat.lt_of_lt_of_le hsw h3.size
     clear h2 h3
     by_cases hz:x=0
     ·have z1:(x==0)=true:=by simp[hz]
      have hacc:Hid (hallTextN wide xs (k+1)=hallTextN wide xs k++ [44]++ [46]):=by show _=_;rw[hfin.out,hsep.out];simp[cellTok,hz]
      clear hz
      go_wp2_with fail
      refine(WriteByte_k w1.heap.size w1.heap.size (Lib.byteCells (hallTextN wide xs k++ [44])) 46 _ HBS.out (by simp[Lib.byteCells]at hbl⊢;omega) (by omega)).mono ?_
      rintro e w3 ⟨rfl,h2,h3,_⟩
      have HB3:Hid (Lib.IsBuilderF 85 5 w1.heap.size w1.heap.size (Lib.byteCells (hallTextN wide xs (k+1))) w3):=by rw[hacc.out,byteCells_one _ 46 46 rfl];exact .inr h2
      have hE3:Ext w1 w3:=ext_below hE2 h3 (Nat.le_refl _)
      have hs3:w1.heap.size<w3.heap.size:=Nat.lt_of_lt_of_le hs2 h3.size
      clear h2 h3
      go_wp2
      go_roundw
      case rel=>exact⟨k+1,by omega,by go_num,HB3.out,hE3,hs3⟩
      case measure=>simp[intOf];omega
     ·have z1:(x==0)=false:=by simp[hz]
      have hacc:Hid (hallTextN wide xs (k+1)=hallTextN wide xs k++ [44]++Lib.decDigits x.toNat):=by show _=_;rw[hfin.out,hsep.out];simp[cellTok,hz]
      clear hz
      have hdl:(Lib.decDigits x.toNat).length≤21:=decDigits_len _ (by omega)
      go_wp2_with fail
      refine(itoaI x _ hx0 (by omega) (HE0.out.ext (hx1.trans hE2))).mono ?_
      rintro e w3 ⟨rfl,h3'⟩
      have HB2:=Lib.hid (builder_ext HBS.out h3')
      have hs3':w1.heap.size<w3.heap.size:=Nat.lt_of_lt_of_le hs2 h3'.sz
      go_wp2_with fail
      refine(WriteString_k w1.heap.size w1.heap.size (Lib.byteCells (hallTextN wide xs k++ [44])) _ _ HB2.out (by simp[Lib.byteCells,ByteArray.size]at hbl⊢;omega) (by omega)).mono ?_
      rintro e w4 ⟨rfl,h2,h3,_⟩
      have HB3:Hid (Lib.IsBuilderF 85 5 w1.heap.size w1.heap.size (Lib.byteCells (hallTextN wide xs (k+1))) w4):=by rw[hacc.out,byteCells_append];exact .inr h2
      have hE3:Ext w1 w4:=ext_below (Ext.trans hE2 h3') h3 (Nat.le_refl _)
      have hs3:w1.heap.size<w4.heap.size:=Nat.lt_of_lt_of_le hs3' h3.size
      clear h2 h3
      go_wp2
      go_roundw
      case rel=>exact⟨k+1,by omega,by go_num,HB3.out,hE3,hs3⟩
      case measure=>simp[intOf];omega
  ·obtain rfl:k=n:=by omega
   go_wp2_with fail
   refine(Tryd.Builder_String_any_f w1.heap.size w1.heap.size (hallTextN wide xs k) _ HBU.out (by omega)).mono ?_
   rintro e w2 ⟨rfl,h2,h3⟩
   have hE2:Ext w w2:=ext_below hEw h3 (by omega)
   clear h2 h3
   go_wp2
   go_ret
   exact⟨rfl,hE2⟩
end Go.Proofs.YtndcnflchkfaeaaDoor

namespace Go.Proofs.YtndcnflchkfaeaaDoor
open Go.RowKit
set_option linter.unusedVariables false
theorem hallOk_parts {wide deep:Int}{xs:List Int}(h:hallOk wide deep xs=true):2≤wide∧wide≤4∧2≤deep∧deep≤3∧4≤xs.length∧xs.length≤12∧(xs.length:Int)=wide*deep∧(∀x∈xs,0≤x∧x≤99)∧(xs.filter (fun x=>decide (0<x))).Nodup:=by
 simp only[hallOk,Bool.and_eq_true]at h
 obtain⟨h1,h2,h3,h4,h5,h6,h7⟩:=shape_bd h.1
 obtain⟨q1,_,q3⟩:=(cellsOk_iff _ _).1 h.2
 exact⟨h1,h2,h3,h4,h5,h6,h7,q1,q3⟩
theorem implHallText (wide deep:Int)(p:Option Addr)(n cap:Nat)(xs:List Int)(w:World)(hE:Env w)(hS:Sl w p n cap 1 (ivs xs)):
  Calls Tryd.prog 49 #[hallV wide deep p n cap] w fun e w'=>e= .returned (str (hallText wide deep xs))∧Ext w w':=by
 have hl:=hS.ilen
 cases h:hallOk wide deep xs with
 |true=>
  obtain⟨h1,h2,h3,h4,h5,h6,h7,h8,h9⟩:=hallOk_parts h
  unfold hallText
  rw[if_pos h,hl]
  exact implHallText_ok wide deep p n cap xs w hE h1 h2 (by omega) h8 hS (fun w' hx=>by rw[←h];exact implHv wide deep p n cap xs w' (hS.ext hx))
 |false=>
  unfold hallText
  rw[if_neg (by simp[h])]
  exact implHallText_bad wide deep p n cap w (fun w' hx=>by rw[←h];exact implHv wide deep p n cap xs w' (hS.ext hx))
set_option maxRecDepth 100000 in
set_option maxHeartbeats 1000000 in
theorem alive_any (w:World)(hE:Env w):Calls Tryd.prog 12 #[] w fun e w'=>e= .returned (.bool true)∧Ext w w':=by
 have HE:=Lib.hid hE
 have T1:Hid (∀w p,Env w→Sl w p 4 4 1 (ivs [0,7,0,0])→Calls Tryd.prog 49 #[hallV 2 2 p 4 4] w fun e w'=>e= .returned (str [46,44,55,47,46,44,46])∧Ext w w'):=fun w p hE hS=>by
  have:=implHallText 2 2 p 4 4 [0,7,0,0] w hE hS
  have e:hallText 2 2 [0,7,0,0]= [46,44,55,47,46,44,46]:=by
   simp[hallText,hallOk,shapeOk,cellsOk,hallTextN,cellSep,cellTok,decDigits_lt]
  rwa[e]at this
 have T2:Hid (∀w,Env w→Calls Tryd.prog 49 #[hallV 0 0 none 0 0] w fun e w'=>e= .returned (str [])∧Ext w w'):=fun w hE=>by
  have:=implHallText 0 0 none 0 0 [] w hE (Sl.nil w 1)
  have e:hallText 0 0 []= []:=by simp[hallText,hallOk,shapeOk]
  rwa[e]at this
 clear hE
 go_enter Tryd.func12,Tryd.ntmps12
 go_wp2_with fail
 refine(T1.out _ _ (HE.out.ext (by exact .alloc (.refl _) _)) (Sl.new w #[iv 0,iv 7,iv 0,iv 0] _ 4 rfl (by unfold maxLen;omega))).mono ?_
 rintro e w1 ⟨rfl,h1⟩
 go_wp2_with fail
 refine(T2.out _ (HE.out.ext (by exact .trans (.alloc (.refl _) _) h1))).mono ?_
 rintro e w2 ⟨rfl,h2⟩
 go_wp2
 go_ret
 exact⟨rfl,by exact .trans (.trans (.alloc (.refl _) _) h1) h2⟩
end Go.Proofs.YtndcnflchkfaeaaDoor

namespace Go.Proofs.YtndcnflchkfaeaaDoor
open Go.RowKit
set_option linter.unusedVariables false
set_option maxRecDepth 100000 in
set_option maxHeartbeats 1000000 in
theorem sameInts_any (p q:Option Addr)(n c1 c2:Nat)(xs:List Int)(w:World)(h1:Sl w p n c1 1 (ivs xs))(h2:Sl w q n c2 1 (ivs xs)):
  Calls Tryd.prog 22 #[.slice p n c1,.slice q n c2] w fun e w'=>e= .returned (.bool true)∧Ext w w':=by
 have hn:=h1.bd
 have H1:=Lib.hid h1
 have H2:=Lib.hid h2
 clear h1 h2
 go_enter Tryd.func22,Tryd.ntmps22
 go_wp2
 go_loopw [5] (fun i wr=> ∃k:Nat,k≤n∧i= .int .i64 k∧Ext w wr) (fun i _=>n-(intOf i).toNat)
 case atStart=>exact⟨0,Nat.zero_le _,rfl,Ext.refl _⟩
 case round=>
  obtain⟨k,hk,rfl,hE⟩:=hrel
  by_cases hlt:k<n
  ·obtain⟨b,off,x,rfl,hx,hb,hcell⟩:=(H1.out.ext hE).int_at hlt
   obtain⟨b2,off2,y,rfl,hy,hb2,hcell2⟩:=(H2.out.ext hE).int_at hlt
   rw[hx]at hy
   injection hy with hy
   subst hy
   clear hx
   have i1:(0:Int)≤(k:Int):=by omega
   have i2:(k:Int)<(n:Int):=by omega
   go_wp2
   go_quiet (fail)
   go_wp2
   go_roundw
   case rel=>exact⟨k+1,by omega,by go_num,by(repeat' (first|exact Ext.refl _|(with_reducible assumption)|(with_reducible refine Ext.alloc ?_ _)|(with_reducible refine Ext.setCell ?_ (by first|exact Nat.le_refl _|(dsimp only;omega)|(simp;done)|(simp;omega)) _)|(with_reducible refine Ext.drew ?_)|(with_reducible refine Ext.drewN ?_ _)|(refine Ext.trans ?_ (by with_reducible assumption))))⟩
   case measure=>simp[intOf];omega
  ·go_wp2
   go_ret
   exact⟨rfl,hE⟩
end Go.Proofs.YtndcnflchkfaeaaDoor

