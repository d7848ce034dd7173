/-
  A law's walk or frame (@packed).
-/
import Derived.Test.YtndcnflchkfaeaaDoorK10
import Derived.Test.YtndcnflchkfaeaaDoorK22
import Derived.Test.YtndcnflchkfaeaaDoorK28
import Derived.Test.YtndcnflchkfaeaaDoorK32
namespace Go.Proofs.YtndcnflchkfaeaaDoor
open Go.RowKit
set_option linter.unusedVariables false
set_option linter.unusedSimpArgs false
set_option maxRecDepth 100000 in
set_option maxHeartbeats 8000000 in
theorem fnDeskPlace_big (p:Option Addr)(n cap:Nat)(w:World)(h:(1048576:Int)<n):
  Calls Tryd.prog 7 #[.slice p n cap] w fun e w'=>e= .returned (.bool true)∧Ext w w':=by
 go_enter Tryd.func7,Tryd.ntmps7
 go_wp2
 go_ret
 exact⟨rfl,by(repeat' (first|exact Ext.refl _|(with_reducible assumption)|(with_reducible refine Ext.alloc ?_ _)|(with_reducible refine Ext.setCell ?_ (by first|exact Nat.le_refl _|(dsimp only;omega)|(simp;done)|(simp;omega)) _)|(with_reducible refine Ext.drew ?_)|(with_reducible refine Ext.drewN ?_ _)|(refine Ext.trans ?_ (by with_reducible assumption))))⟩
set_option maxRecDepth 100000 in
set_option maxHeartbeats 8000000 in
theorem fnDeskPlace_o (p0:Option Addr)(n0 cap0:Nat)(w:World)(hn0:(n0:Int)≤1048576)(HE:Hid (Env w))
  (HD:Calls Tryd.prog 31 #[.slice p0 n0 cap0] w (DrewDeskId w)):
  Calls Tryd.prog 7 #[.slice p0 n0 cap0] w fun e w'=>e= .returned (.bool true)∧Ext w w':=by
 unfold DrewDeskId at HD
 have HD:=Lib.hid HD
 have hd0:decide ((1048576:Int)<(n0:Int))=false:=by simp;omega
 have hd1:decide (1048576<n0)=false:=by simp;omega
 go_enter Tryd.func7,Tryd.ntmps7
 go_wp2_with fail
 refine HD.out.mono ?_
 rintro e w1 ⟨P,T,W,q,c,q2,c2,id,rfl,hT,hW,ho,hv,hx1⟩
 have hX1:=Lib.hid hx1
 clear HD hx1 hd0 hd1
 have HI:=Lib.hid (⟨Sl.own ho,Sl.own hv⟩:IsDesk w1 ⟨P,T,W⟩ q c q2 c2)
 have HS:=Lib.hid (Sl.own ho)
 clear ho hv
 have HPi:=Lib.hid fun(w':World) (hx:Ext w1 w')=>implDp ⟨P,T,W⟩ q c q2 c2 id w' (HI.out.ext hx)
 have HPs:=Lib.hid fun(w':World) (hx:Ext w1 w')=>specDp ⟨P,T,W⟩ q c q2 c2 id w' (HI.out.ext hx)
 have HV:=Lib.hid fun(w':World) (hx:Ext w1 w')=>specDv P q T.length c q2 W.length c2 T W w' (HI.out.ext hx).tk (HI.out.ext hx).rw
 have HH:=Lib.hid fun(w':World) (hx:Ext w1 w')=>hasBook_any q T.length c T id w' (HS.out.ext hx)
 have hcases:(deskValid ⟨P,T,W⟩=false∧deskPlace ⟨P,T,W⟩ id= -1)∨(deskValid ⟨P,T,W⟩=true∧(0≤deskPlace ⟨P,T,W⟩ id↔hasId id T=true)∧deskPlace ⟨P,T,W⟩ id<P):=by
  cases hv:deskValid ⟨P,T,W⟩with
  |false=>exact .inl ⟨rfl,place_badD _ _ hv⟩
  |true=>exact .inr ⟨rfl,(place_some hv).1,(place_some hv).2⟩
 obtain⟨X,hX⟩: ∃x,deskPlace ⟨P,T,W⟩ id=x:=⟨_,rfl⟩
 obtain⟨V,hV⟩: ∃x,deskValid ⟨P,T,W⟩=x:=⟨_,rfl⟩
 obtain⟨H,hH⟩: ∃x,hasId id T=x:=⟨_,rfl⟩
 rw[hX]at HPi HPs
 rw[hV]at HV
 rw[hH]at HH
 rw[hX,hV,hH]at hcases
 clear hX hV hH
 go_wp2_with fail
 refine(HPi.out _ (((Mem.start w1).blkNew TDk #[.int .i64 P,.slice q T.length c,.slice q2 W.length c2] (w1.heap.size) (by simp))).ext).mono ?_
 rintro e w2 ⟨rfl,hx2⟩
 have M2:=Lib.hid ((((Mem.start w1).blkNew TDk #[.int .i64 P,.slice q T.length c,.slice q2 W.length c2] (w1.heap.size) (by simp))).adv hx2)
 have lt2_0:w1.heap.size<w2.heap.size:=(M2.out.lt (i:=0) rfl rfl).2
 clear hx2
 obtain⟨ca0,ca1,ca2⟩:=(M2.out.blk (i:=0) rfl).tri
 go_wp2_with fail
 clear ca0 ca1 ca2
 refine(HPs.out _ (M2.out).ext).mono ?_
 rintro e w3 ⟨rfl,hx3⟩
 have M3:=Lib.hid ((M2.out).adv hx3)
 clear M2
 clear lt2_0
 have lt3_0:w1.heap.size<w3.heap.size:=(M3.out.lt (i:=0) rfl rfl).2
 clear hx3
 obtain⟨ca0,ca1,ca2⟩:=(M3.out.blk (i:=0) rfl).tri
 go_wp2_with fail
 clear ca0 ca1 ca2
 refine(HV.out _ (M3.out).ext).mono ?_
 rintro e w4 ⟨rfl,hx4⟩
 have M4:=Lib.hid ((M3.out).adv hx4)
 clear M3
 clear lt3_0
 have lt4_0:w1.heap.size<w4.heap.size:=(M4.out.lt (i:=0) rfl rfl).2
 clear hx4
 rcases hcases with⟨rfl,rfl⟩|⟨rfl,h1,h2⟩
 ·skip
  go_wp2_with fail
  refine(alive_any _ (HE.out.ext (hX1.out.trans (M4.out).ext))).mono ?_
  rintro e wz ⟨rfl,hxz⟩
  have XZ:Ext w wz:=hX1.out.trans ((M4.out).ext.trans hxz)
  go_wp2
  go_ret
  exact⟨rfl,XZ⟩
 ·skip
  have t1:decide (X<P)=true:=by simp[h2]
  have t2:(decide (0≤X)==H)=true:=by
   cases H with
   |true=>simp[h1.2 rfl]
   |false=>
    have: ¬0≤X:=fun h=>by have:=h1.1 h;cases this
    simp[this]
  clear h1 h2
  obtain⟨ca0,ca1,ca2⟩:=(M4.out.blk (i:=0) rfl).tri
  go_wp2_with fail
  clear ca0 ca1 ca2
  refine(HH.out _ (M4.out).ext).mono ?_
  rintro e w5 ⟨rfl,hx5⟩
  have M5:=Lib.hid ((M4.out).adv hx5)
  clear M4
  clear lt4_0
  have lt5_0:w1.heap.size<w5.heap.size:=(M5.out.lt (i:=0) rfl rfl).2
  clear hx5
  obtain⟨ca0,ca1,ca2⟩:=(M5.out.blk (i:=0) rfl).tri
  have XZ:Ext w w5:=hX1.out.trans (M5.out).ext
  go_wp2
  go_ret
  exact⟨rfl,XZ⟩
theorem walk_FnDeskPlace (W:World)(v:Value)(u:Unit)(hc:Code W v)(hE:Env W):Calls Tryd.prog 7 #[v] W fun e w'=>e= .returned (.bool true)∧Ext W w':=by
 have hD:=drawDeskPlace v W hc
 obtain⟨p0,n,cap,bs,rfl,h,hb⟩:=hc
 by_cases hn:(n:Int)≤1048576
 ·exact fnDeskPlace_o p0 n cap W hn (Lib.hid hE) hD
 ·exact fnDeskPlace_big p0 n cap W (by omega)
end Go.Proofs.YtndcnflchkfaeaaDoor
