/-
  Texts of this proof, packed (@packed).
-/
import Derived.Test.YteejdnmmpmcmeaaGreatDoorK4
import Derived.Test.YteejdnmmpmcmeaaGreatDoorK5
import Derived.Test.YteejdnmmpmcmeaaGreatDoorK7
import Derived.Test.YteejdnmmpmcmeaaGreatDoorK21
namespace Go.Proofs.YteejdnmmpmcmeaaGreatDoor
open Go.RowKit
set_option linter.unusedVariables false
set_option linter.unusedSimpArgs false
abbrev TT4:TypeId:=27
abbrev TS3:TypeId:=36
def payI (f s p c i pd a now amt:Int):(Int×Int×Int)×Int×Bool:=
 if 1≤amt∧amt≤300 then
  (if stayDue f s p c i pd a now=0 then((i,pd,a),amt,false)else((i,pd+min (stayDue f s p c i pd a now) amt,now),amt-min (stayDue f s p c i pd a now) amt,true))
 else((0,0,0),amt,false)
theorem stayDue_bd {f s p c i pd a now:Int}(h:tariffOk f s p c=true)(h2:stayOk i pd a=true)(h3:a≤now)(h4:now≤9999):0≤stayDue f s p c i pd a now∧stayDue f s p c i pd a now≤693:=by
 obtain⟨b1,b2,b3,b4,b5,b6⟩:=stay_parts h2
 have hb:=feeOf_bd (m:=now-i) h (by omega) (by omega)
 unfold stayDue
 rw[if_pos (by simp[h,h2,h3,h4])]
 omega
set_option maxRecDepth 100000 in
set_option maxHeartbeats 8000000 in
theorem specPs_no (i pd a now f s p c amt D:Int)(w:World)(hD:0≤D)(hD2:D≤693)(hp0:0≤pd)(hp:pd≤9999)
  (HD:Hid (∀w,Calls Tryz.prog 75 #[tariffV f s p c,stayV i pd a,.int .i64 now] w fun e w'=>e= .returned (.int .i64 D)∧Ext w w'))
  (HI:Hid (∀w,Calls Tryz.prog 66 #[.int .i64 amt,.int .i64 1,.int .i64 300] w fun e w'=>e= .returned (.bool false)∧w=w'))(ha:amt<1∨300<amt):
  Calls Tryz.prog 186 #[tariffV f s p c,stayV i pd a,.int .i64 now,.int .i64 amt] w fun e w'=>e= .returned (.tuple #[stayV 0 0 0,.int .i64 amt,.bool false])∧Ext w w':=by
 go_enter Tryz.func186,Tryz.ntmps186
 go_wp2_with fail
 refine(HD.out _).mono ?_
 rintro e w1 ⟨rfl,hx1⟩
 have M1:=Lib.hid ((((((((Mem.start w).blkNew TT4 #[.int .i64 f,.int .i64 s,.int .i64 p,.int .i64 c] (w.heap.size) (by simp))).blkNew TS3 #[.int .i64 i,.int .i64 pd,.int .i64 a] (w.heap.size+1) (by simp))).blkNew TS3 #[.int .i64 0,.int .i64 0,.int .i64 0] (w.heap.size+1+1) (by simp))).adv hx1)
 have lt1_0:w.heap.size+1+1<w1.heap.size:=(M1.out.lt (i:=0) rfl rfl).2
 have lt1_1:w.heap.size+1<w1.heap.size:=(M1.out.lt (i:=1) rfl rfl).2
 have lt1_2:w.heap.size<w1.heap.size:=(M1.out.lt (i:=2) rfl rfl).2
 clear hx1
 go_wp2_with fail
 refine(HI.out _).mono ?_
 rintro e _ ⟨rfl,rfl⟩
 obtain⟨c0,c1,c2⟩:=(M1.out.blk (i:=1) rfl).tri
 obtain⟨d0,d1,d2⟩:=(M1.out.blk (i:=0) rfl).tri
 have df0:w1.frozen? ⟨w.heap.size+1+1,0,none⟩=false:=(M1.out.blk (i:=0) rfl).frozen 0
 have df1:w1.frozen? ⟨w.heap.size+1+1,1,none⟩=false:=(M1.out.blk (i:=0) rfl).frozen 1
 have df2:w1.frozen? ⟨w.heap.size+1+1,2,none⟩=false:=(M1.out.blk (i:=0) rfl).frozen 2
 clear HD HI
 go_wp2
 clear c0 c1 c2 d0 d1 d2 df0 df1 df2
 have M2:=Lib.hid (show Mem w (((w1.setCell ⟨w.heap.size+1+1,0,none⟩ (.int .i64 0)).setCell ⟨w.heap.size+1+1,1,none⟩ (.int .i64 0)).setCell ⟨w.heap.size+1+1,2,none⟩ (.int .i64 0)) [blkI w.heap.size (w.heap.size+1+1) TS3 #[.int .i64 0,.int .i64 0,.int .i64 0],blkI w.heap.size (w.heap.size+1) TS3 #[.int .i64 i,.int .i64 pd,.int .i64 a],blkI w.heap.size (w.heap.size) TT4 #[.int .i64 f,.int .i64 s,.int .i64 p,.int .i64 c]]from((((((M1.out).store (i:=0) rfl 0 (.int .i64 0))).store (i:=0) rfl 1 (.int .i64 0))).store (i:=0) rfl 2 (.int .i64 0)))
 generalize World.setCell _ _ _=wz at M2⊢
 clear M1
 clear lt1_0 lt1_1 lt1_2
 have lt2_0:w.heap.size+1+1<wz.heap.size:=(M2.out.lt (i:=0) rfl rfl).2
 have lt2_1:w.heap.size+1<wz.heap.size:=(M2.out.lt (i:=1) rfl rfl).2
 have lt2_2:w.heap.size<wz.heap.size:=(M2.out.lt (i:=2) rfl rfl).2
 obtain⟨y0,y1,y2⟩:=(M2.out.blk (i:=0) rfl).tri
 exact bodyPost_ret (v:= .tuple #[.agg #[.int .i64 0,.int .i64 0,.int .i64 0],.int .i64 amt,.bool false]) (by simp[results,Tryz.results186,go_sem, *]) rfl ⟨rfl,M2.out.ext⟩
set_option maxRecDepth 100000 in
set_option maxHeartbeats 8000000 in
theorem specPs_zero (i pd a now f s p c amt:Int)(w:World)(hp0:0≤pd)(hp:pd≤9999)
  (HD:Hid (∀w,Calls Tryz.prog 75 #[tariffV f s p c,stayV i pd a,.int .i64 now] w fun e w'=>e= .returned (.int .i64 0)∧Ext w w'))
  (HI:Hid (∀w,Calls Tryz.prog 66 #[.int .i64 amt,.int .i64 1,.int .i64 300] w fun e w'=>e= .returned (.bool true)∧w=w'))(ha:1≤amt)(hb:amt≤300):
  Calls Tryz.prog 186 #[tariffV f s p c,stayV i pd a,.int .i64 now,.int .i64 amt] w fun e w'=>e= .returned (.tuple #[stayV i pd a,.int .i64 amt,.bool false])∧Ext w w':=by
 go_enter Tryz.func186,Tryz.ntmps186
 go_wp2_with fail
 refine(HD.out _).mono ?_
 rintro e w1 ⟨rfl,hx1⟩
 have M1:=Lib.hid ((((((((Mem.start w).blkNew TT4 #[.int .i64 f,.int .i64 s,.int .i64 p,.int .i64 c] (w.heap.size) (by simp))).blkNew TS3 #[.int .i64 i,.int .i64 pd,.int .i64 a] (w.heap.size+1) (by simp))).blkNew TS3 #[.int .i64 0,.int .i64 0,.int .i64 0] (w.heap.size+1+1) (by simp))).adv hx1)
 have lt1_0:w.heap.size+1+1<w1.heap.size:=(M1.out.lt (i:=0) rfl rfl).2
 have lt1_1:w.heap.size+1<w1.heap.size:=(M1.out.lt (i:=1) rfl rfl).2
 have lt1_2:w.heap.size<w1.heap.size:=(M1.out.lt (i:=2) rfl rfl).2
 clear hx1
 go_wp2_with fail
 refine(HI.out _).mono ?_
 rintro e _ ⟨rfl,rfl⟩
 obtain⟨c0,c1,c2⟩:=(M1.out.blk (i:=1) rfl).tri
 obtain⟨d0,d1,d2⟩:=(M1.out.blk (i:=0) rfl).tri
 have df0:w1.frozen? ⟨w.heap.size+1+1,0,none⟩=false:=(M1.out.blk (i:=0) rfl).frozen 0
 have df1:w1.frozen? ⟨w.heap.size+1+1,1,none⟩=false:=(M1.out.blk (i:=0) rfl).frozen 1
 have df2:w1.frozen? ⟨w.heap.size+1+1,2,none⟩=false:=(M1.out.blk (i:=0) rfl).frozen 2
 clear HD HI
 go_wp2
 clear c0 c1 c2 d0 d1 d2 df0 df1 df2
 have M2:=Lib.hid (show Mem w (((w1.setCell ⟨w.heap.size+1+1,0,none⟩ (.int .i64 i)).setCell ⟨w.heap.size+1+1,1,none⟩ (.int .i64 pd)).setCell ⟨w.heap.size+1+1,2,none⟩ (.int .i64 a)) [blkI w.heap.size (w.heap.size+1+1) TS3 #[.int .i64 i,.int .i64 pd,.int .i64 a],blkI w.heap.size (w.heap.size+1) TS3 #[.int .i64 i,.int .i64 pd,.int .i64 a],blkI w.heap.size (w.heap.size) TT4 #[.int .i64 f,.int .i64 s,.int .i64 p,.int .i64 c]]from((((((M1.out).store (i:=0) rfl 0 (.int .i64 i))).store (i:=0) rfl 1 (.int .i64 pd))).store (i:=0) rfl 2 (.int .i64 a)))
 generalize World.setCell _ _ _=wz at M2⊢
 clear M1
 clear lt1_0 lt1_1 lt1_2
 have lt2_0:w.heap.size+1+1<wz.heap.size:=(M2.out.lt (i:=0) rfl rfl).2
 have lt2_1:w.heap.size+1<wz.heap.size:=(M2.out.lt (i:=1) rfl rfl).2
 have lt2_2:w.heap.size<wz.heap.size:=(M2.out.lt (i:=2) rfl rfl).2
 obtain⟨y0,y1,y2⟩:=(M2.out.blk (i:=0) rfl).tri
 exact bodyPost_ret (v:= .tuple #[.agg #[.int .i64 i,.int .i64 pd,.int .i64 a],.int .i64 amt,.bool false]) (by simp[results,Tryz.results186,go_sem, *]) rfl ⟨rfl,M2.out.ext⟩
set_option maxRecDepth 100000 in
set_option maxHeartbeats 8000000 in
theorem specPs_yes (i pd a now f s p c amt D:Int)(w:World)(hD:0≤D)(hD2:D≤693)(hp0:0≤pd)(hp:pd≤9999)
  (HD:Hid (∀w,Calls Tryz.prog 75 #[tariffV f s p c,stayV i pd a,.int .i64 now] w fun e w'=>e= .returned (.int .i64 D)∧Ext w w'))
  (HI:Hid (∀w,Calls Tryz.prog 66 #[.int .i64 amt,.int .i64 1,.int .i64 300] w fun e w'=>e= .returned (.bool true)∧w=w'))(ha:1≤amt)(hb:amt≤300)(hD1:1≤D):
  Calls Tryz.prog 186 #[tariffV f s p c,stayV i pd a,.int .i64 now,.int .i64 amt] w fun e w'=>e= .returned (.tuple #[stayV i (pd+min D amt) now,.int .i64 (amt-min D amt),.bool true])∧Ext w w':=by
 go_enter Tryz.func186,Tryz.ntmps186
 go_wp2_with fail
 refine(HD.out _).mono ?_
 rintro e w1 ⟨rfl,hx1⟩
 have M1:=Lib.hid ((((((((Mem.start w).blkNew TT4 #[.int .i64 f,.int .i64 s,.int .i64 p,.int .i64 c] (w.heap.size) (by simp))).blkNew TS3 #[.int .i64 i,.int .i64 pd,.int .i64 a] (w.heap.size+1) (by simp))).blkNew TS3 #[.int .i64 0,.int .i64 0,.int .i64 0] (w.heap.size+1+1) (by simp))).adv hx1)
 have lt1_0:w.heap.size+1+1<w1.heap.size:=(M1.out.lt (i:=0) rfl rfl).2
 have lt1_1:w.heap.size+1<w1.heap.size:=(M1.out.lt (i:=1) rfl rfl).2
 have lt1_2:w.heap.size<w1.heap.size:=(M1.out.lt (i:=2) rfl rfl).2
 clear hx1
 go_wp2_with fail
 refine(HI.out _).mono ?_
 rintro e _ ⟨rfl,rfl⟩
 obtain⟨c0,c1,c2⟩:=(M1.out.blk (i:=1) rfl).tri
 obtain⟨d0,d1,d2⟩:=(M1.out.blk (i:=0) rfl).tri
 have df0:w1.frozen? ⟨w.heap.size+1+1,0,none⟩=false:=(M1.out.blk (i:=0) rfl).frozen 0
 have df1:w1.frozen? ⟨w.heap.size+1+1,1,none⟩=false:=(M1.out.blk (i:=0) rfl).frozen 1
 have df2:w1.frozen? ⟨w.heap.size+1+1,2,none⟩=false:=(M1.out.blk (i:=0) rfl).frozen 2
 clear HD HI
 have k1:IntKind.i64.wrap (pd+min D amt)=pd+min D amt:=IntWalk.i64_in _ (by omega)
 have k2:IntKind.i64.wrap (amt-min D amt)=amt-min D amt:=IntWalk.i64_in _ (by omega)
 have hd1:(D==0)=false:=by simp;omega
 go_wp2
 clear c0 c1 c2 d0 d1 d2 df0 df1 df2
 have M2:=Lib.hid (show Mem w (((w1.setCell ⟨w.heap.size+1+1,0,none⟩ (.int .i64 i)).setCell ⟨w.heap.size+1+1,1,none⟩ (.int .i64 (pd+min D amt))).setCell ⟨w.heap.size+1+1,2,none⟩ (.int .i64 now)) [blkI w.heap.size (w.heap.size+1+1) TS3 #[.int .i64 i,.int .i64 (pd+min D amt),.int .i64 now],blkI w.heap.size (w.heap.size+1) TS3 #[.int .i64 i,.int .i64 pd,.int .i64 a],blkI w.heap.size (w.heap.size) TT4 #[.int .i64 f,.int .i64 s,.int .i64 p,.int .i64 c]]from((((((M1.out).store (i:=0) rfl 0 (.int .i64 i))).store (i:=0) rfl 1 (.int .i64 (pd+min D amt)))).store (i:=0) rfl 2 (.int .i64 now)))
 generalize World.setCell _ _ _=wz at M2⊢
 clear M1
 clear lt1_0 lt1_1 lt1_2
 have lt2_0:w.heap.size+1+1<wz.heap.size:=(M2.out.lt (i:=0) rfl rfl).2
 have lt2_1:w.heap.size+1<wz.heap.size:=(M2.out.lt (i:=1) rfl rfl).2
 have lt2_2:w.heap.size<wz.heap.size:=(M2.out.lt (i:=2) rfl rfl).2
 obtain⟨y0,y1,y2⟩:=(M2.out.blk (i:=0) rfl).tri
 exact bodyPost_ret (v:= .tuple #[.agg #[.int .i64 i,.int .i64 (pd+min D amt),.int .i64 now],.int .i64 (amt-min D amt),.bool true]) (by simp[results,Tryz.results186,go_sem, *]) rfl ⟨rfl,M2.out.ext⟩
theorem payStay_any (f s p c i pd a now amt:Int)(w:World)(h:tariffOk f s p c=true)(h2:stayOk i pd a=true)(h3:a≤now)(h4:now≤9999):
  Calls Tryz.prog 186 #[tariffV f s p c,stayV i pd a,.int .i64 now,.int .i64 amt] w fun e w'=>e= .returned (.tuple #[stayV (payI f s p c i pd a now amt).1.1 (payI f s p c i pd a now amt).1.2.1 (payI f s p c i pd a now amt).1.2.2,.int .i64 (payI f s p c i pd a now amt).2.1,.bool (payI f s p c i pd a now amt).2.2])∧Ext w w':=by
 obtain⟨b1,b2,b3,b4,b5,b6⟩:=stay_parts h2
 obtain⟨e1,e2⟩:=stayDue_bd h h2 h3 h4
 have HD:=Lib.hid (fun w=>specSd f s p c i pd a now w h h2 h3 h4)
 unfold payI
 generalize stayDue f s p c i pd a now=D at*
 by_cases ha:1≤amt∧amt≤300
 ·have HI:Hid (∀w,Calls Tryz.prog 66 #[.int .i64 amt,.int .i64 1,.int .i64 300] w fun e w'=>e= .returned (.bool true)∧w=w'):=fun w=>l1In_yes amt 1 300 w ha.1 ha.2
  rw[if_pos ha]
  by_cases hd:D=0
  ·subst hd
   rw[if_pos rfl]
   exact specPs_zero i pd a now f s p c amt w b3 b4 HD HI ha.1 ha.2
  ·rw[if_neg hd]
   exact specPs_yes i pd a now f s p c amt D w e1 e2 b3 b4 HD HI ha.1 ha.2 (by omega)
 ·have HI:Hid (∀w,Calls Tryz.prog 66 #[.int .i64 amt,.int .i64 1,.int .i64 300] w fun e w'=>e= .returned (.bool false)∧w=w'):=fun w=>l1In_no amt 1 300 w (by omega)
  rw[if_neg ha]
  exact specPs_no i pd a now f s p c amt D w e1 e2 b3 b4 HD HI (by omega)
end Go.Proofs.YteejdnmmpmcmeaaGreatDoor

namespace Go.Proofs.YteejdnmmpmcmeaaGreatDoor
open Go.RowKit
set_option linter.unusedVariables false
set_option linter.unusedSimpArgs false
section
variable {w0 w w':World} {L:List Item}
theorem Mem.own2 {b n c sz n2 c2 sz2:Nat}{e e2:TypeId}{q q2:Option Addr}{xs xs2:List Value}(h:Mem w0 w L)(hx:Ext w w')(ho1:w'.ownsRow b e sz (.slice q n c) n xs)(ho2:w'.ownsRow b e2 sz2 (.slice q2 n2 c2) n2 xs2)(hb:w.heap.size≤b)(ht:e≠e2):
  Mem w0 w' (ownI w0.heap.size e sz q n c xs::ownI w0.heap.size e2 sz2 q2 n2 c2 xs2::L):=by
 refine(h.ownNew hx ho2 hb).cons (ownI_good _ _ _ _ _ _ _) (own_low ho1 (Nat.le_trans h.ext.sz hb)) (fun g' hg' j hj e'=> ?_)
 replace hg':(Value.slice q n c).ownBlock=Option.some g':=hg'
 have h1:=(World.ownsRow.lt ho1 g' hg').1
 rcases List.mem_cons.1 hj with rfl|hj
 ·replace e':(Value.slice q2 n2 c2).ownBlock=Option.some g':=e'
  rcases ho1.2 with⟨h2,_⟩|⟨g2,cap',cur,h2,_,h3,_⟩
  ·rw[h2]at hg';cases hg'
  ·rcases ho2.2 with⟨k2,_⟩|⟨g3,cap3,cur3,k2,_,k3,_⟩
   ·rw[k2]at e';cases e'
   ·rw[h2]at hg';rw[k2]at e'
    injection hg' with hg';injection e' with e'
    have hg'':g2=g':=hg'
    have he'':g3=g':=e'
    subst hg'';subst he''
    rw[h3]at k3
    injection k3 with k3;injection k3 with _ k3
    exact ht k3
 ·have h2:=((h.good j hj).lt w (h.ok j hj) g' e').2
  omega
end
set_option maxRecDepth 100000 in
set_option maxHeartbeats 8000000 in
theorem specPay_none (wide deep free step price capp clock bank id amt:Int)(p:Option Addr)(n cap:Nat)(q:Option Addr)(m c2:Nat)(xs:List Int)(vs:List Visit4)(w:World)
  (HL:Hid (∀w',Ext w w'→Calls Tryz.prog 146 #[.agg #[.int .i64 wide,.int .i64 deep,.slice p n cap,.int .i64 free,.int .i64 step,.int .i64 price,.int .i64 capp,.int .i64 clock,.int .i64 bank,.slice q m c2]] w' fun e w''=> ∃p' cap' q' c2',e= .returned (.agg #[.int .i64 wide,.int .i64 deep,.slice p' n cap',.int .i64 free,.int .i64 step,.int .i64 price,.int .i64 capp,.int .i64 clock,.int .i64 bank,.slice q' m c2'])∧w''.ownsRow w'.heap.size TI 1 (.slice p' n cap') n (ivs xs)∧w''.ownsRow w'.heap.size TV 4 (.slice q' m c2') m (vs.flatMap visitCells)∧Ext w' w''))
  (HF:Hid (∀w',Ext w w'→Calls Tryz.prog 73 #[.agg #[.int .i64 wide,.int .i64 deep,.slice p n cap,.int .i64 free,.int .i64 step,.int .i64 price,.int .i64 capp,.int .i64 clock,.int .i64 bank,.slice q m c2],.int .i64 id] w' fun e w''=>e= .returned (.int .i64 (-1))∧Ext w' w'')):
  Calls Tryz.prog 149 #[.agg #[.int .i64 wide,.int .i64 deep,.slice p n cap,.int .i64 free,.int .i64 step,.int .i64 price,.int .i64 capp,.int .i64 clock,.int .i64 bank,.slice q m c2],.int .i64 id,.int .i64 amt] w fun e w'=> ∃p' cap' q' c2' b,e= .returned (.tuple #[.agg #[.int .i64 wide,.int .i64 deep,.slice p' n cap',.int .i64 free,.int .i64 step,.int .i64 price,.int .i64 capp,.int .i64 clock,.int .i64 bank,.slice q' m c2'],.int .i64 b,.bool false])∧Ext w w':=by
 go_enter Tryz.func149,Tryz.ntmps149
 go_wp2_with fail
 refine(HL.out _ (((((Mem.start w).blkNew TH10 #[.int .i64 wide,.int .i64 deep,.slice p n cap,.int .i64 free,.int .i64 step,.int .i64 price,.int .i64 capp,.int .i64 clock,.int .i64 bank,.slice q m c2] (w.heap.size) (by simp))).blkNew TH10 #[.int .i64 0,.int .i64 0,.slice none 0 0,.int .i64 0,.int .i64 0,.int .i64 0,.int .i64 0,.int .i64 0,.int .i64 0,.slice none 0 0] (w.heap.size+1) (by simp))).ext).mono ?_
 rintro e w1 ⟨p1,cp1,q1,cq1,rfl,ho1,hq1,hx1⟩
 have M1:=Lib.hid ((((((Mem.start w).blkNew TH10 #[.int .i64 wide,.int .i64 deep,.slice p n cap,.int .i64 free,.int .i64 step,.int .i64 price,.int .i64 capp,.int .i64 clock,.int .i64 bank,.slice q m c2] (w.heap.size) (by simp))).blkNew TH10 #[.int .i64 0,.int .i64 0,.slice none 0 0,.int .i64 0,.int .i64 0,.int .i64 0,.int .i64 0,.int .i64 0,.int .i64 0,.slice none 0 0] (w.heap.size+1) (by simp))).own2 hx1 ho1 hq1 (Nat.le_refl _) (by decide))
 have lt1_2:w.heap.size+1<w1.heap.size:=(M1.out.lt (i:=2) rfl rfl).2
 have lt1_3:w.heap.size<w1.heap.size:=(M1.out.lt (i:=3) rfl rfl).2
 clear hx1 ho1 hq1 HL
 obtain⟨ce0,ce1,ce2,ce3,ce4,ce5,ce6,ce7,ce8,ce9⟩:=(M1.out.blk (i:=3) rfl).ten
 go_wp2_with fail
 clear ce0 ce1 ce2 ce3 ce4 ce5 ce6 ce7 ce8 ce9
 refine(HF.out _ (((M1.out).blkNew TH10 #[.int .i64 wide,.int .i64 deep,.slice p1 n cp1,.int .i64 free,.int .i64 step,.int .i64 price,.int .i64 capp,.int .i64 clock,.int .i64 bank,.slice q1 m cq1] (w1.heap.size) (by simp))).ext).mono ?_
 rintro e w2 ⟨rfl,hx2⟩
 have M2:=Lib.hid ((((M1.out).blkNew TH10 #[.int .i64 wide,.int .i64 deep,.slice p1 n cp1,.int .i64 free,.int .i64 step,.int .i64 price,.int .i64 capp,.int .i64 clock,.int .i64 bank,.slice q1 m cq1] (w1.heap.size) (by simp))).adv hx2)
 clear M1
 clear lt1_2 lt1_3
 have lt2_0:w1.heap.size<w2.heap.size:=(M2.out.lt (i:=0) rfl rfl).2
 have lt2_3:w.heap.size+1<w2.heap.size:=(M2.out.lt (i:=3) rfl rfl).2
 have lt2_4:w.heap.size<w2.heap.size:=(M2.out.lt (i:=4) rfl rfl).2
 clear hx2
 clear HF
 obtain⟨d0,d1,d2,d3,d4,d5,d6,d7,d8,d9⟩:=(M2.out.blk (i:=0) rfl).ten
 obtain⟨f0,ff0,f1,ff1,f2,ff2,f3,ff3,f4,ff4,f5,ff5,f6,ff6,f7,ff7,f8,ff8,f9,ff9⟩:=(M2.out.blk (i:=3) rfl).tenf
 have ne0_1a: ¬(w1.heap.size=w.heap.size+1):=M2.out.ne (i:=0) (j:=3) (by omega) rfl rfl rfl rfl
 have ne0_1b: ¬(w.heap.size+1=w1.heap.size):=fun h=>ne0_1a h.symm
 go_wp2
 clear d0 d1 d2 d3 d4 d5 d6 d7 d8 d9 f0 ff0 f1 ff1 f2 ff2 f3 ff3 f4 ff4 f5 ff5 f6 ff6 f7 ff7 f8 ff8 f9 ff9 ne0_1a ne0_1b lt2_0 lt2_3 lt2_4
 have M3:=Lib.hid (((M2.out).put10 (i:=3) rfl (.int .i64 wide) (.int .i64 deep) (.slice p1 n cp1) (.int .i64 free) (.int .i64 step) (.int .i64 price) (.int .i64 capp) (.int .i64 clock) (.int .i64 bank) (.slice q1 m cq1)))
 generalize hwz:World.setCell _ _ _=wz
 rw[hwz]at M3
 clear hwz M2
 obtain⟨y0,y1,y2,y3,y4,y5,y6,y7,y8,y9⟩:=(M3.out.blk (i:=3) rfl).ten
 exact bodyPost_ret (v:= .tuple #[.agg #[.int .i64 wide,.int .i64 deep,.slice p1 n cp1,.int .i64 free,.int .i64 step,.int .i64 price,.int .i64 capp,.int .i64 clock,.int .i64 bank,.slice q1 m cq1],.int .i64 amt,.bool false]) (by simp[results,Tryz.results149,go_sem, *]) rfl ⟨p1,cp1,q1,cq1,amt,rfl,M3.out.ext⟩
theorem set_visit {vs:List Visit4}{k:Nat}{a0 a1 a2 a3:Int}(h:vs[k]? =some (a0,a1,a2,a3)) (S1 S2 S3:Int):
  (((vs.flatMap visitCells).set (k*4+1) (.int .i64 S1)).set (k*4+2) (.int .i64 S2)).set (k*4+3) (.int .i64 S3)=(vs.set k (a0,S1,S2,S3)).flatMap visitCells:=by
 induction vs generalizing k with
 |nil=>simp at h
 |cons v vs ih=>
  cases k with
  |zero=>
   simp at h
   subst h
   simp[visitCells]
  |succ k=>
   have h':vs[k]? =some (a0,a1,a2,a3):=by simpa using h
   rw[List.set_cons_succ,List.flatMap_cons,List.flatMap_cons,←ih h']
   simp only[visitCells,List.cons_append,List.nil_append]
   rw[show(k+1)*4+1=(k*4+1)+1+1+1+1 by omega,show(k+1)*4+2=(k*4+2)+1+1+1+1 by omega,show(k+1)*4+3=(k*4+3)+1+1+1+1 by omega]
   simp only[List.set_cons_succ]
set_option maxRecDepth 100000 in
set_option maxHeartbeats 8000000 in
theorem specPay_o (wide deep free step price capp clock bank id amt:Int)(p:Option Addr)(n cap b off m c2 k:Nat)(xs:List Int)(vs:List Visit4)(a0 a1 a2 a3 S1 S2 S3 bk:Int)(okb:Bool)(w:World)(hk:k<m)(hm:m≤1000)(hb:b<w.heap.size)(hbn:0≤bank)(hbn2:bank≤99999)(hok:okb=true→0≤bk∧bk≤amt∧amt≤300)(HV0:Hid (vs[k]? =some (a0,a1,a2,a3)))
  (g1:w.cell? ⟨b,off+k*4+1,none⟩=some (.int .i64 a1)) (g2:w.cell? ⟨b,off+k*4+2,none⟩=some (.int .i64 a2)) (g3:w.cell? ⟨b,off+k*4+3,none⟩=some (.int .i64 a3))
  (HL:Hid (∀w',Ext w w'→Calls Tryz.prog 146 #[.agg #[.int .i64 wide,.int .i64 deep,.slice p n cap,.int .i64 free,.int .i64 step,.int .i64 price,.int .i64 capp,.int .i64 clock,.int .i64 bank,.slice (some ⟨b,off,none⟩) m c2]] w' fun e w''=> ∃p' cap' q' c2',e= .returned (.agg #[.int .i64 wide,.int .i64 deep,.slice p' n cap',.int .i64 free,.int .i64 step,.int .i64 price,.int .i64 capp,.int .i64 clock,.int .i64 bank,.slice q' m c2'])∧w''.ownsRow w'.heap.size TI 1 (.slice p' n cap') n (ivs xs)∧w''.ownsRow w'.heap.size TV 4 (.slice q' m c2') m (vs.flatMap visitCells)∧Ext w' w''))
  (HF:Hid (∀w',Ext w w'→Calls Tryz.prog 73 #[.agg #[.int .i64 wide,.int .i64 deep,.slice p n cap,.int .i64 free,.int .i64 step,.int .i64 price,.int .i64 capp,.int .i64 clock,.int .i64 bank,.slice (some ⟨b,off,none⟩) m c2],.int .i64 id] w' fun e w''=>e= .returned (.int .i64 (k:Int))∧Ext w' w''))
  (HP:Hid (∀w',Calls Tryz.prog 186 #[tariffV free step price capp,stayV a1 a2 a3,.int .i64 clock,.int .i64 amt] w' fun e w''=>e= .returned (.tuple #[stayV S1 S2 S3,.int .i64 bk,.bool okb])∧Ext w' w'')):
  Calls Tryz.prog 149 #[.agg #[.int .i64 wide,.int .i64 deep,.slice p n cap,.int .i64 free,.int .i64 step,.int .i64 price,.int .i64 capp,.int .i64 clock,.int .i64 bank,.slice (some ⟨b,off,none⟩) m c2],.int .i64 id,.int .i64 amt] w fun e w'=>(∃p' cap' q' c2' b,e= .returned (.tuple #[.agg #[.int .i64 wide,.int .i64 deep,.slice p' n cap',.int .i64 free,.int .i64 step,.int .i64 price,.int .i64 capp,.int .i64 clock,.int .i64 bank,.slice q' m c2'],.int .i64 b,.bool false])∧ ¬(okb=true∧bank+amt-bk≤99999)∧Ext w w')∨
   (okb=true∧bank+amt-bk≤99999∧ ∃p' cap' q' c2',e= .returned (.tuple #[.agg #[.int .i64 wide,.int .i64 deep,.slice p' n cap',.int .i64 free,.int .i64 step,.int .i64 price,.int .i64 capp,.int .i64 clock,.int .i64 (bank+amt-bk),.slice q' m c2'],.int .i64 bk,.bool true])∧w'.ownsRow w.heap.size TI 1 (.slice p' n cap') n (ivs xs)∧w'.ownsRow w.heap.size TV 4 (.slice q' m c2') m ((vs.set k (a0,S1,S2,S3)).flatMap visitCells)∧Ext w w'):=by
 go_enter Tryz.func149,Tryz.ntmps149
 go_wp2_with fail
 refine(HL.out _ (((((Mem.start w).blkNew TH10 #[.int .i64 wide,.int .i64 deep,.slice p n cap,.int .i64 free,.int .i64 step,.int .i64 price,.int .i64 capp,.int .i64 clock,.int .i64 bank,.slice (some ⟨b,off,none⟩) m c2] (w.heap.size) (by simp))).blkNew TH10 #[.int .i64 0,.int .i64 0,.slice none 0 0,.int .i64 0,.int .i64 0,.int .i64 0,.int .i64 0,.int .i64 0,.int .i64 0,.slice none 0 0] (w.heap.size+1) (by simp))).ext).mono ?_
 rintro e w1 ⟨p1,cp1,q1,cq1,rfl,ho1,hq1,hx1⟩
 have M1:=Lib.hid ((((((Mem.start w).blkNew TH10 #[.int .i64 wide,.int .i64 deep,.slice p n cap,.int .i64 free,.int .i64 step,.int .i64 price,.int .i64 capp,.int .i64 clock,.int .i64 bank,.slice (some ⟨b,off,none⟩) m c2] (w.heap.size) (by simp))).blkNew TH10 #[.int .i64 0,.int .i64 0,.slice none 0 0,.int .i64 0,.int .i64 0,.int .i64 0,.int .i64 0,.int .i64 0,.int .i64 0,.slice none 0 0] (w.heap.size+1) (by simp))).own2 hx1 ho1 hq1 (Nat.le_refl _) (by decide))
 have lt1_2:w.heap.size+1<w1.heap.size:=(M1.out.lt (i:=2) rfl rfl).2
 have lt1_3:w.heap.size<w1.heap.size:=(M1.out.lt (i:=3) rfl rfl).2
 clear hx1 ho1 hq1 HL
 obtain⟨ce0,ce1,ce2,ce3,ce4,ce5,ce6,ce7,ce8,ce9⟩:=(M1.out.blk (i:=3) rfl).ten
 go_wp2_with fail
 clear ce0 ce1 ce2 ce3 ce4 ce5 ce6 ce7 ce8 ce9
 refine(HF.out _ (((M1.out).blkNew TH10 #[.int .i64 wide,.int .i64 deep,.slice p1 n cp1,.int .i64 free,.int .i64 step,.int .i64 price,.int .i64 capp,.int .i64 clock,.int .i64 bank,.slice q1 m cq1] (w1.heap.size) (by simp))).ext).mono ?_
 rintro e w2 ⟨rfl,hx2⟩
 have M2:=Lib.hid ((((M1.out).blkNew TH10 #[.int .i64 wide,.int .i64 deep,.slice p1 n cp1,.int .i64 free,.int .i64 step,.int .i64 price,.int .i64 capp,.int .i64 clock,.int .i64 bank,.slice q1 m cq1] (w1.heap.size) (by simp))).adv hx2)
 clear M1
 clear lt1_2 lt1_3
 have lt2_0:w1.heap.size<w2.heap.size:=(M2.out.lt (i:=0) rfl rfl).2
 have lt2_3:w.heap.size+1<w2.heap.size:=(M2.out.lt (i:=3) rfl rfl).2
 have lt2_4:w.heap.size<w2.heap.size:=(M2.out.lt (i:=4) rfl rfl).2
 clear hx2
 clear HF
 obtain⟨ce0,ce1,ce2,ce3,ce4,ce5,ce6,ce7,ce8,ce9⟩:=(M2.out.blk (i:=4) rfl).ten
 have hX2:=M2.out.ext
 have g1':w2.cell? ⟨b,off+k*4+1,none⟩=some (.int .i64 a1):=(hX2.cells.1 _ _ hb).trans g1
 have g2':w2.cell? ⟨b,off+k*4+2,none⟩=some (.int .i64 a2):=(hX2.cells.1 _ _ hb).trans g2
 have g3':w2.cell? ⟨b,off+k*4+3,none⟩=some (.int .i64 a3):=(hX2.cells.1 _ _ hb).trans g3
 have hb2:b<w2.heap.size:=Nat.lt_of_lt_of_le hb hX2.sz
 clear hX2
 have i1:(0:Int)≤(k:Int):=by omega
 have i2:(k:Int)<(m:Int):=by omega
 have n1: ¬(w.heap.size=w2.heap.size):=by omega
 have n2: ¬(w2.heap.size=w.heap.size):=by omega
 have n3: ¬(b=w2.heap.size):=by omega
 have n4: ¬(w2.heap.size=b):=by omega
 go_upto_region 5 with fail
 go_cut [11,12,13] (fun s11 s12 s13 wx=> ∃a:Nat,s11= .pointer (some ⟨a,0,none⟩)∧s12= .int .i64 bk∧s13= .bool okb∧Ext w2 wx∧w2.heap.size≤a∧Blk wx a TS3 #[.int .i64 S1,.int .i64 S2,.int .i64 S3])
 case first=>
  go_region_held3 (fun w'=>w'.cell? ⟨w.heap.size,3,none⟩=some (.int .i64 free)∧w'.cell? ⟨w.heap.size,4,none⟩=some (.int .i64 step)∧w'.cell? ⟨w.heap.size,5,none⟩=some (.int .i64 price)∧w'.cell? ⟨w.heap.size,6,none⟩=some (.int .i64 capp)∧w'.cell? ⟨w.heap.size,7,none⟩=some (.int .i64 clock)∧w'.cell? ⟨w.heap.size,9,none⟩=some (.slice (some ⟨b,off,none⟩) m c2)∧w'.cell? ⟨b,off+k*4+1,none⟩=some (.int .i64 a1)∧w'.cell? ⟨b,off+k*4+2,none⟩=some (.int .i64 a2)∧w'.cell? ⟨b,off+k*4+3,none⟩=some (.int .i64 a3))
   (first|(refine⟨?_,?_,?_,?_,?_,?_,?_,?_,?_⟩<;>assumption)|go_keep)
   ((go_at_call 186
     refine(HP.out _).mono ?_
     rintro e w5 ⟨rfl,hx5⟩
     have hy5:Ext w2 w5:=by(repeat' (first|exact Ext.refl _|(with_reducible assumption)|(with_reducible refine Ext.alloc ?_ _)|(with_reducible refine Ext.setCell ?_ (by first|exact Nat.le_refl _|(dsimp only;omega)|(simp;done)|(simp;omega)) _)|(with_reducible refine Ext.drew ?_)|(with_reducible refine Ext.drewN ?_ _)|(refine Ext.trans ?_ (by with_reducible assumption))))
     have gg3:w5.cell? ⟨w.heap.size,3,none⟩=some (.int .i64 free):=((M2.out.blk (i:=4) rfl).ext hy5).cell 3
     have gg4:w5.cell? ⟨w.heap.size,4,none⟩=some (.int .i64 step):=((M2.out.blk (i:=4) rfl).ext hy5).cell 4
     have gg5:w5.cell? ⟨w.heap.size,5,none⟩=some (.int .i64 price):=((M2.out.blk (i:=4) rfl).ext hy5).cell 5
     have gg6:w5.cell? ⟨w.heap.size,6,none⟩=some (.int .i64 capp):=((M2.out.blk (i:=4) rfl).ext hy5).cell 6
     have gg7:w5.cell? ⟨w.heap.size,7,none⟩=some (.int .i64 clock):=((M2.out.blk (i:=4) rfl).ext hy5).cell 7
     have gg9:w5.cell? ⟨w.heap.size,9,none⟩=some (.slice (some ⟨b,off,none⟩) m c2):=((M2.out.blk (i:=4) rfl).ext hy5).cell 9
     have gv1:w5.cell? ⟨b,off+k*4+1,none⟩=some (.int .i64 a1):=(hy5.cells.1 _ _ hb2).trans g1'
     have gv2:w5.cell? ⟨b,off+k*4+2,none⟩=some (.int .i64 a2):=(hy5.cells.1 _ _ hb2).trans g2'
     have gv3:w5.cell? ⟨b,off+k*4+3,none⟩=some (.int .i64 a3):=(hy5.cells.1 _ _ hb2).trans g3'
     first
      |(have hz5:Ext (w2.alloc (.cells #[.int .i64 0,.int .i64 0,.int .i64 0] TS3)) w5:=hx5
        have BB:=(Blk.new w2 TS3 #[.int .i64 0,.int .i64 0,.int .i64 0]).ext hz5
        have zc0:w5.cell? ⟨w2.heap.size,0,none⟩=some (.int .i64 0):=BB.cell 0
        have zf0:w5.frozen? ⟨w2.heap.size,0,none⟩=false:=BB.frozen 0
        have zc1:w5.cell? ⟨w2.heap.size,1,none⟩=some (.int .i64 0):=BB.cell 1
        have zf1:w5.frozen? ⟨w2.heap.size,1,none⟩=false:=BB.frozen 1
        have zc2:w5.cell? ⟨w2.heap.size,2,none⟩=some (.int .i64 0):=BB.cell 2
        have zf2:w5.frozen? ⟨w2.heap.size,2,none⟩=false:=BB.frozen 2)
      |(have hz5:Ext (w2.alloc (.cells #[.int .i64 0,.int .i64 0,.int .i64 0] TS3)) w5:=hx5.of_drew
        have BB:=(Blk.new w2 TS3 #[.int .i64 0,.int .i64 0,.int .i64 0]).ext hz5
        have zc0:w5.cell? ⟨w2.heap.size,0,none⟩=some (.int .i64 0):=BB.cell 0
        have zf0:w5.frozen? ⟨w2.heap.size,0,none⟩=false:=BB.frozen 0
        have zc1:w5.cell? ⟨w2.heap.size,1,none⟩=some (.int .i64 0):=BB.cell 1
        have zf1:w5.frozen? ⟨w2.heap.size,1,none⟩=false:=BB.frozen 1
        have zc2:w5.cell? ⟨w2.heap.size,2,none⟩=some (.int .i64 0):=BB.cell 2
        have zf2:w5.frozen? ⟨w2.heap.size,2,none⟩=false:=BB.frozen 2)
      |skip))
  ·go_wp2_with fail
   go_meet
   exact⟨w5.heap.size,rfl,rfl,rfl,by exact .alloc hy5 _,by have:=hy5.sz;omega,Blk.new _ _ _⟩
  ·have hR:ExtR w2.heap.size w5 _:=(((ExtR.refl w2.heap.size w5).setCell (p:=⟨w2.heap.size,0,none⟩) (.inl rfl) (.int .i64 S1)).setCell (p:=⟨w2.heap.size,1,none⟩) (.inl rfl) (.int .i64 S2)).setCell (p:=⟨w2.heap.size,2,none⟩) (.inl rfl) (.int .i64 S3)
   have hY:=((BB.set 0 (.int .i64 S1)).set 1 (.int .i64 S2)).set 2 (.int .i64 S3)
   simp only[List.setIfInBounds_toArray,List.set_cons_zero,List.set_cons_succ]at hY
   go_wp2_with fail
   go_meet
   exact⟨w2.heap.size,rfl,rfl,rfl,ExtR.new hy5 hR (Nat.le_refl _),Nat.le_refl _,hY⟩
 case rest=>
  clear ce0 ce1 ce2 ce3 ce4 ce5 ce6 ce7 ce8 ce9 g1' g2' g3' hb2 HP n1 n2 n3 n4
  obtain⟨a,rfl,rfl,rfl,hE5,ha,hBa⟩:=hcut
  have M3:=Lib.hid (M2.out.blkOf hE5 hBa ha)
  clear M2
  clear lt2_0 lt2_3 lt2_4
  have lt3_0:a<wc.heap.size:=(M3.out.lt (i:=0) rfl rfl).2
  have lt3_1:w1.heap.size<wc.heap.size:=(M3.out.lt (i:=1) rfl rfl).2
  have lt3_4:w.heap.size+1<wc.heap.size:=(M3.out.lt (i:=4) rfl rfl).2
  have lt3_5:w.heap.size<wc.heap.size:=(M3.out.lt (i:=5) rfl rfl).2
  clear hE5 ha hBa
  cases okb with
  |false=>
   have hno:Hid (¬(false=true∧bank+amt-bk≤99999)):=by show¬_;simp
   obtain⟨d0,d1,d2,d3,d4,d5,d6,d7,d8,d9⟩:=(M3.out.blk (i:=1) rfl).ten
   obtain⟨f0,ff0,f1,ff1,f2,ff2,f3,ff3,f4,ff4,f5,ff5,f6,ff6,f7,ff7,f8,ff8,f9,ff9⟩:=(M3.out.blk (i:=4) rfl).tenf
   have ne0_1a: ¬(w1.heap.size=w.heap.size+1):=M3.out.ne (i:=1) (j:=4) (by omega) rfl rfl rfl rfl
   have ne0_1b: ¬(w.heap.size+1=w1.heap.size):=fun h=>ne0_1a h.symm
   go_wp2
   clear d0 d1 d2 d3 d4 d5 d6 d7 d8 d9 f0 ff0 f1 ff1 f2 ff2 f3 ff3 f4 ff4 f5 ff5 f6 ff6 f7 ff7 f8 ff8 f9 ff9 ne0_1a ne0_1b lt3_0 lt3_1 lt3_4 lt3_5
   have M4:=Lib.hid (((M3.out).put10 (i:=4) rfl (.int .i64 wide) (.int .i64 deep) (.slice p1 n cp1) (.int .i64 free) (.int .i64 step) (.int .i64 price) (.int .i64 capp) (.int .i64 clock) (.int .i64 bank) (.slice q1 m cq1)))
   generalize hwz:World.setCell _ _ _=wz
   rw[hwz]at M4
   clear hwz M3
   obtain⟨y0,y1,y2,y3,y4,y5,y6,y7,y8,y9⟩:=(M4.out.blk (i:=4) rfl).ten
   exact bodyPost_ret (v:= .tuple #[.agg #[.int .i64 wide,.int .i64 deep,.slice p1 n cp1,.int .i64 free,.int .i64 step,.int .i64 price,.int .i64 capp,.int .i64 clock,.int .i64 bank,.slice q1 m cq1],.int .i64 amt,.bool false]) (by simp[results,Tryz.results149,go_sem, *]) rfl (by first|exact .inl ⟨p1,cp1,q1,cq1,amt,rfl,hno.out,M4.out.ext⟩|(have hno2:=hno.out;simp at hno2;first|exact .inl ⟨p1,cp1,q1,cq1,amt,rfl,hno2,M4.out.ext⟩|exact .inl ⟨p1,cp1,q1,cq1,amt,rfl,by omega,M4.out.ext⟩|exact .inl ⟨⟨p1,cp1,q1,cq1,amt,rfl⟩,hno2,M4.out.ext⟩|exact .inl ⟨⟨p1,cp1,q1,cq1,amt,rfl⟩,by omega,M4.out.ext⟩|exact .inl ⟨⟨p1,cp1,q1,cq1,amt,rfl⟩,M4.out.ext⟩|exact⟨⟨p1,cp1,q1,cq1,amt,rfl⟩,M4.out.ext⟩))
  |true=>
   obtain⟨o1,o2,o3⟩:=hok rfl
   have k1:IntKind.i64.wrap (bank+amt)=bank+amt:=IntWalk.i64_in _ (by omega)
   have k2:IntKind.i64.wrap (bank+amt-bk)=bank+amt-bk:=IntWalk.i64_in _ (by omega)
   have h8:wc.cell? ⟨w.heap.size,8,none⟩=some (.int .i64 bank):=(M3.out.blk (i:=5) rfl).cell 8
   by_cases hq:bank+amt-bk≤99999
   ·have hd:decide (99999<bank+amt-bk)=false:=by simp;omega
    have hqq:=Lib.hid hq
    clear hq
    obtain⟨gq,rfl,hgq1,hgq2⟩:=M3.out.some (i:=3) rfl (by omega)
    obtain⟨b9,o9,x0,x1,x2,x3,e9,hx9,_,y0,y1,y2,y3⟩:=visit_at (M3.out.sl (i:=3) rfl) hk
    injection e9 with e9
    injection e9 with e9 e8
    subst e9 e8
    simp only[Nat.zero_add]at y1 y2 y3
    have HX9:=Lib.hid hx9
    clear hx9 y0 hgq1
    obtain⟨d0,df0,d1,df1,d2,df2,d3,df3,d4,df4,d5,df5,d6,df6,d7,df7,d8,df8,d9,df9⟩:=(M3.out.blk (i:=1) rfl).tenf
    obtain⟨f0,ff0,f1,ff1,f2,ff2,f3,ff3,f4,ff4,f5,ff5,f6,ff6,f7,ff7,f8,ff8,f9,ff9⟩:=(M3.out.blk (i:=4) rfl).tenf
    obtain⟨sa0,sa1,sa2⟩:=(M3.out.blk (i:=0) rfl).tri
    have z1:wc.frozen? ⟨gq,k*4+1,none⟩=false:=(M3.out.own (i:=3) rfl).frozenAt (k*4+1)
    have z2:wc.frozen? ⟨gq,k*4+2,none⟩=false:=(M3.out.own (i:=3) rfl).frozenAt (k*4+2)
    have z3:wc.frozen? ⟨gq,k*4+3,none⟩=false:=(M3.out.own (i:=3) rfl).frozenAt (k*4+3)
    have ne0_1a: ¬(w.heap.size+1=w.heap.size):=M3.out.ne (i:=4) (j:=5) (by omega) rfl rfl rfl rfl
    have ne0_1b: ¬(w.heap.size=w.heap.size+1):=fun h=>ne0_1a h.symm
    have ne0_2a: ¬(w1.heap.size=w.heap.size):=M3.out.ne (i:=1) (j:=5) (by omega) rfl rfl rfl rfl
    have ne0_2b: ¬(w.heap.size=w1.heap.size):=fun h=>ne0_2a h.symm
    have ne0_3a: ¬(a=w.heap.size):=M3.out.ne (i:=0) (j:=5) (by omega) rfl rfl rfl rfl
    have ne0_3b: ¬(w.heap.size=a):=fun h=>ne0_3a h.symm
    have ne0_4a: ¬(gq=w.heap.size):=M3.out.ne (i:=3) (j:=5) (by omega) rfl rfl rfl rfl
    have ne0_4b: ¬(w.heap.size=gq):=fun h=>ne0_4a h.symm
    have ne1_2a: ¬(w1.heap.size=w.heap.size+1):=M3.out.ne (i:=1) (j:=4) (by omega) rfl rfl rfl rfl
    have ne1_2b: ¬(w.heap.size+1=w1.heap.size):=fun h=>ne1_2a h.symm
    have ne1_3a: ¬(a=w.heap.size+1):=M3.out.ne (i:=0) (j:=4) (by omega) rfl rfl rfl rfl
    have ne1_3b: ¬(w.heap.size+1=a):=fun h=>ne1_3a h.symm
    have ne1_4a: ¬(gq=w.heap.size+1):=M3.out.ne (i:=3) (j:=4) (by omega) rfl rfl rfl rfl
    have ne1_4b: ¬(w.heap.size+1=gq):=fun h=>ne1_4a h.symm
    have ne2_3a: ¬(a=w1.heap.size):=M3.out.ne (i:=0) (j:=1) (by omega) rfl rfl rfl rfl
    have ne2_3b: ¬(w1.heap.size=a):=fun h=>ne2_3a h.symm
    have ne2_4a: ¬(w1.heap.size=gq):=M3.out.ne (i:=1) (j:=3) (by omega) rfl rfl rfl rfl
    have ne2_4b: ¬(gq=w1.heap.size):=fun h=>ne2_4a h.symm
    have ne3_4a: ¬(a=gq):=M3.out.ne (i:=0) (j:=3) (by omega) rfl rfl rfl rfl
    have ne3_4b: ¬(gq=a):=fun h=>ne3_4a h.symm
    have M4:=Lib.hid (show Mem w (((wc.setCell ⟨gq,k*4+1,none⟩ (.int .i64 S1)).setCell ⟨gq,k*4+2,none⟩ (.int .i64 S2)).setCell ⟨gq,k*4+3,none⟩ (.int .i64 S3)) [blkI w.heap.size (a) TS3 #[.int .i64 S1,.int .i64 S2,.int .i64 S3],blkI w.heap.size (w1.heap.size) TH10 #[.int .i64 wide,.int .i64 deep,.slice p1 n cp1,.int .i64 free,.int .i64 step,.int .i64 price,.int .i64 capp,.int .i64 clock,.int .i64 bank,.slice (some ⟨gq,0,none⟩) m cq1],ownI w.heap.size TI 1 (p1) (n) (cp1) (ivs xs),ownI w.heap.size TV 4 (some ⟨gq,0,none⟩) (m) (cq1) ((((vs.flatMap visitCells).set (k*4+1) (.int .i64 S1)).set (k*4+2) (.int .i64 S2)).set (k*4+3) (.int .i64 S3)),blkI w.heap.size (w.heap.size+1) TH10 #[.int .i64 0,.int .i64 0,.slice none 0 0,.int .i64 0,.int .i64 0,.int .i64 0,.int .i64 0,.int .i64 0,.int .i64 0,.slice none 0 0],blkI w.heap.size (w.heap.size) TH10 #[.int .i64 wide,.int .i64 deep,.slice p n cap,.int .i64 free,.int .i64 step,.int .i64 price,.int .i64 capp,.int .i64 clock,.int .i64 bank,.slice (some ⟨b,off,none⟩) m c2]]from((((((M3.out).ostore (i:=3) rfl (k*4+1) (.int .i64 S1))).ostore (i:=3) rfl (k*4+2) (.int .i64 S2))).ostore (i:=3) rfl (k*4+3) (.int .i64 S3)))
    have M5:=Lib.hid (show Mem w ((((wc.setCell ⟨gq,k*4+1,none⟩ (.int .i64 S1)).setCell ⟨gq,k*4+2,none⟩ (.int .i64 S2)).setCell ⟨gq,k*4+3,none⟩ (.int .i64 S3)).setCell ⟨w1.heap.size,8,none⟩ (.int .i64 (bank+amt-bk))) [blkI w.heap.size (a) TS3 #[.int .i64 S1,.int .i64 S2,.int .i64 S3],blkI w.heap.size (w1.heap.size) TH10 #[.int .i64 wide,.int .i64 deep,.slice p1 n cp1,.int .i64 free,.int .i64 step,.int .i64 price,.int .i64 capp,.int .i64 clock,.int .i64 (bank+amt-bk),.slice (some ⟨gq,0,none⟩) m cq1],ownI w.heap.size TI 1 (p1) (n) (cp1) (ivs xs),ownI w.heap.size TV 4 (some ⟨gq,0,none⟩) (m) (cq1) ((((vs.flatMap visitCells).set (k*4+1) (.int .i64 S1)).set (k*4+2) (.int .i64 S2)).set (k*4+3) (.int .i64 S3)),blkI w.heap.size (w.heap.size+1) TH10 #[.int .i64 0,.int .i64 0,.slice none 0 0,.int .i64 0,.int .i64 0,.int .i64 0,.int .i64 0,.int .i64 0,.int .i64 0,.slice none 0 0],blkI w.heap.size (w.heap.size) TH10 #[.int .i64 wide,.int .i64 deep,.slice p n cap,.int .i64 free,.int .i64 step,.int .i64 price,.int .i64 capp,.int .i64 clock,.int .i64 bank,.slice (some ⟨b,off,none⟩) m c2]]from((M4.out).store (i:=1) rfl 8 (.int .i64 (bank+amt-bk))))
    have hfl:Hid ((((vs.flatMap visitCells).set (k*4+1) (.int .i64 S1)).set (k*4+2) (.int .i64 S2)).set (k*4+3) (.int .i64 S3)=(vs.set k (a0,S1,S2,S3)).flatMap visitCells):=set_visit HV0.out S1 S2 S3
    go_wp2
    clear d0 df0 d1 df1 d2 df2 d3 df3 d4 df4 d5 df5 d6 df6 d7 df7 d8 df8 d9 df9 f0 ff0 f1 ff1 f2 ff2 f3 ff3 f4 ff4 f5 ff5 f6 ff6 f7 ff7 f8 ff8 f9 ff9 sa0 sa1 sa2 z1 z2 z3 ne0_1a ne0_1b ne0_2a ne0_2b ne0_3a ne0_3b ne0_4a ne0_4b ne1_2a ne1_2b ne1_3a ne1_3b ne1_4a ne1_4b ne2_3a ne2_3b ne2_4a ne2_4b ne3_4a ne3_4b y1 y2 y3 hgq2 h8 lt3_0 lt3_1 lt3_4 lt3_5
    have M6:=Lib.hid (((M5.out).put10 (i:=4) rfl (.int .i64 wide) (.int .i64 deep) (.slice p1 n cp1) (.int .i64 free) (.int .i64 step) (.int .i64 price) (.int .i64 capp) (.int .i64 clock) (.int .i64 (bank+amt-bk)) (.slice (some ⟨gq,0,none⟩) m cq1)))
    generalize hwz:World.setCell _ _ _=wz
    rw[hwz]at M6
    clear hwz M3 M4 M5
    obtain⟨y0,y1,y2,y3,y4,y5,y6,y7,y8,y9⟩:=(M6.out.blk (i:=4) rfl).ten
    exact bodyPost_ret (v:= .tuple #[.agg #[.int .i64 wide,.int .i64 deep,.slice p1 n cp1,.int .i64 free,.int .i64 step,.int .i64 price,.int .i64 capp,.int .i64 clock,.int .i64 (bank+amt-bk),.slice (some ⟨gq,0,none⟩) m cq1],.int .i64 bk,.bool true]) (by simp[results,Tryz.results149,go_sem, *]) rfl (by first|exact .inr ⟨rfl,hqq.out,p1,cp1,some ⟨gq,0,none⟩,cq1,rfl,(M6.out.own (i:=2) rfl),by rw[←hfl.out];exact(M6.out.own (i:=3) rfl),M6.out.ext⟩|exact .inr ⟨hqq.out,p1,cp1,some ⟨gq,0,none⟩,cq1,rfl,(M6.out.own (i:=2) rfl),by rw[←hfl.out];exact(M6.out.own (i:=3) rfl),M6.out.ext⟩)
   ·have hno:Hid (¬(true=true∧bank+amt-bk≤99999)):=by show¬_;simp[hq]
    have hd:decide (99999<bank+amt-bk)=true:=by simp;omega
    obtain⟨d0,d1,d2,d3,d4,d5,d6,d7,d8,d9⟩:=(M3.out.blk (i:=1) rfl).ten
    obtain⟨f0,ff0,f1,ff1,f2,ff2,f3,ff3,f4,ff4,f5,ff5,f6,ff6,f7,ff7,f8,ff8,f9,ff9⟩:=(M3.out.blk (i:=4) rfl).tenf
    have ne0_1a: ¬(w1.heap.size=w.heap.size+1):=M3.out.ne (i:=1) (j:=4) (by omega) rfl rfl rfl rfl
    have ne0_1b: ¬(w.heap.size+1=w1.heap.size):=fun h=>ne0_1a h.symm
    go_wp2
    clear d0 d1 d2 d3 d4 d5 d6 d7 d8 d9 f0 ff0 f1 ff1 f2 ff2 f3 ff3 f4 ff4 f5 ff5 f6 ff6 f7 ff7 f8 ff8 f9 ff9 ne0_1a ne0_1b lt3_0 lt3_1 lt3_4 lt3_5
    have M4:=Lib.hid (((M3.out).put10 (i:=4) rfl (.int .i64 wide) (.int .i64 deep) (.slice p1 n cp1) (.int .i64 free) (.int .i64 step) (.int .i64 price) (.int .i64 capp) (.int .i64 clock) (.int .i64 bank) (.slice q1 m cq1)))
    generalize hwz:World.setCell _ _ _=wz
    rw[hwz]at M4
    clear hwz M3
    obtain⟨y0,y1,y2,y3,y4,y5,y6,y7,y8,y9⟩:=(M4.out.blk (i:=4) rfl).ten
    exact bodyPost_ret (v:= .tuple #[.agg #[.int .i64 wide,.int .i64 deep,.slice p1 n cp1,.int .i64 free,.int .i64 step,.int .i64 price,.int .i64 capp,.int .i64 clock,.int .i64 bank,.slice q1 m cq1],.int .i64 amt,.bool false]) (by simp[results,Tryz.results149,go_sem, *]) rfl (by first|exact .inl ⟨p1,cp1,q1,cq1,amt,rfl,hno.out,M4.out.ext⟩|(have hno2:=hno.out;simp at hno2;first|exact .inl ⟨p1,cp1,q1,cq1,amt,rfl,hno2,M4.out.ext⟩|exact .inl ⟨p1,cp1,q1,cq1,amt,rfl,by omega,M4.out.ext⟩|exact .inl ⟨⟨p1,cp1,q1,cq1,amt,rfl⟩,hno2,M4.out.ext⟩|exact .inl ⟨⟨p1,cp1,q1,cq1,amt,rfl⟩,by omega,M4.out.ext⟩|exact .inl ⟨⟨p1,cp1,q1,cq1,amt,rfl⟩,M4.out.ext⟩|exact⟨⟨p1,cp1,q1,cq1,amt,rfl⟩,M4.out.ext⟩))
end Go.Proofs.YteejdnmmpmcmeaaGreatDoor

namespace Go.Proofs.YteejdnmmpmcmeaaGreatDoor
open Go.RowKit
set_option linter.unusedVariables false
set_option linter.unusedSimpArgs false
theorem payI_ok {f s p c i pd a now amt:Int}(hD:0≤stayDue f s p c i pd a now)(h:(payI f s p c i pd a now amt).2.2=true):0≤(payI f s p c i pd a now amt).2.1∧(payI f s p c i pd a now amt).2.1≤amt∧amt≤300:=by
 unfold payI at h⊢
 split at h
 ·rename_i h1
  rw[if_pos h1]
  split at h
  ·cases h
  ·rename_i h2
   rw[if_neg h2]
   dsimp only
   omega
 ·cases h
def payH (h:HouseD)(id amt:Int):Option (HouseD×Int):=
 match visitAt id h.vs with
 |none=>none
 |some v=>if(payI h.free h.step h.price h.capp v.2.1 v.2.2.1 v.2.2.2 h.clock amt).2.2=true∧h.bank+amt-(payI h.free h.step h.price h.capp v.2.1 v.2.2.1 v.2.2.2 h.clock amt).2.1≤99999 then
   some ({h with bank:=h.bank+amt-(payI h.free h.step h.price h.capp v.2.1 v.2.2.1 v.2.2.2 h.clock amt).2.1,vs:=h.vs.set (vix id h.vs).toNat (id,(payI h.free h.step h.price h.capp v.2.1 v.2.2.1 v.2.2.2 h.clock amt).1)},(payI h.free h.step h.price h.capp v.2.1 v.2.2.1 v.2.2.2 h.clock amt).2.1)
  else none
def RetPay (h:HouseD)(r:Option (HouseD×Int))(w:World)(e:Ending)(w':World):Prop:=
 match r with
 |none=> ∃p cap q c2 b,e= .returned (.tuple #[houseV h p h.cells.length cap q h.vs.length c2,.int .i64 b,.bool false])∧Ext w w'
 |some (h',b)=> ∃p cap q c2,e= .returned (.tuple #[houseV h' p h'.cells.length cap q h'.vs.length c2,.int .i64 b,.bool true])∧w'.ownsRow w.heap.size TI 1 (.slice p h'.cells.length cap) h'.cells.length (ivs h'.cells)∧w'.ownsRow w.heap.size TV 4 (.slice q h'.vs.length c2) h'.vs.length (h'.vs.flatMap visitCells)∧Ext w w'
theorem l7Pay_any (h:HouseD)(id amt:Int)(p:Option Addr)(n cap:Nat)(q:Option Addr)(m c2:Nat)(w:World)(hn:n≤1000)(hm:m≤1000)(hi:IsHouse w h p n cap q m c2)
  (ht:tariffOk h.free h.step h.price h.capp=true)(hvs: ∀v∈h.vs,stayOk v.2.1 v.2.2.1 v.2.2.2=true∧v.2.2.2≤h.clock)(hc:h.clock≤9999)(hb0:0≤h.bank)(hb:h.bank≤99999):
  Calls Tryz.prog 149 #[houseV h p n cap q m c2,.int .i64 id,.int .i64 amt] w (RetPay h (payH h id amt) w):=by
 have hl:=hi.clen
 have hvl:=hi.vlen
 have HL:=fun(w':World) (hx:Ext w w')=>l7Copy_any h p n cap q m c2 w' hn hm (hi.ext hx)
 have HF:=fun(w':World) (hx:Ext w w')=>l7Find_any h.wide h.deep h.free h.step h.price h.capp h.clock h.bank id p n cap q m c2 h.vs w' (hi.vs.ext hx)
 unfold RetHouse at HL
 subst hl hvl
 rcases vix_cases id h.vs with⟨h1,h2⟩|⟨k,a1,a2,a3,hk,h1,hx,h2⟩
 ·rw[h1]at HF
  have hr:payH h id amt=none:=by unfold payH;rw[h2]
  rw[hr]
  refine(specPay_none h.wide h.deep h.free h.step h.price h.capp h.clock h.bank id amt p _ cap q _ c2 h.cells h.vs w HL HF).mono ?_
  rintro e w' ⟨p',cap',q',c2',b,rfl,hE⟩
  exact⟨p',cap',q',c2',b,rfl,hE⟩
 ·rw[h1]at HF
  obtain⟨b,off,x0,x1,x2,x3,rfl,hx',hbl,_,g1,g2,g3⟩:=visit_at hi.vs hk
  rw[hx]at hx'
  injection hx' with hx'
  simp only[Prod.mk.injEq]at hx'
  obtain⟨_,rfl,rfl,rfl⟩:=hx'
  obtain⟨s1,s2⟩:=hvs _ (List.mem_of_getElem? hx)
  dsimp only at s1 s2
  have hD:=(stayDue_bd ht s1 s2 hc).1
  have HP:=fun(w':World)=>payStay_any h.free h.step h.price h.capp a1 a2 a3 h.clock amt w' ht s1 s2 hc
  have hok:=payI_ok (amt:=amt) hD
  have hr:payH h id amt=if(payI h.free h.step h.price h.capp a1 a2 a3 h.clock amt).2.2=true∧h.bank+amt-(payI h.free h.step h.price h.capp a1 a2 a3 h.clock amt).2.1≤99999 then some ({h with bank:=h.bank+amt-(payI h.free h.step h.price h.capp a1 a2 a3 h.clock amt).2.1,vs:=h.vs.set k (id,(payI h.free h.step h.price h.capp a1 a2 a3 h.clock amt).1)},(payI h.free h.step h.price h.capp a1 a2 a3 h.clock amt).2.1)else none:=by
   unfold payH
   rw[h2,h1]
   rfl
  rw[hr]
  generalize payI h.free h.step h.price h.capp a1 a2 a3 h.clock amt=r at*
  obtain⟨⟨S1,S2,S3⟩,bk,okb⟩:=r
  dsimp only at HP hok⊢
  refine(specPay_o h.wide h.deep h.free h.step h.price h.capp h.clock h.bank id amt p _ cap b off _ c2 k h.cells h.vs id a1 a2 a3 S1 S2 S3 bk okb w hk hm hbl hb0 hb hok hx g1 g2 g3 HL HF HP).mono ?_
  rintro e w' (⟨p',cap',q',c2',b',rfl,hno,hE⟩|⟨rfl,hle,p',cap',q',c2',rfl,ho1,ho2,hE⟩)
  ·rw[if_neg hno]
   exact⟨p',cap',q',c2',b',rfl,hE⟩
  ·rw[if_pos ⟨rfl,hle⟩]
   refine⟨p',cap',q',c2',?_,ho1,?_,hE⟩
   ·simp[houseV]
   ·simpa using ho2
end Go.Proofs.YteejdnmmpmcmeaaGreatDoor

