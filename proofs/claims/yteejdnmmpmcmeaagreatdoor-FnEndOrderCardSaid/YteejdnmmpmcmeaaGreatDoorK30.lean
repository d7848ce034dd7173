/-
  Texts of this proof, packed (@packed).
-/
import Derived.Test.YteejdnmmpmcmeaaGreatDoorK1
import Derived.Test.YteejdnmmpmcmeaaGreatDoorK4
import Derived.Test.YteejdnmmpmcmeaaGreatDoorK10
import Derived.Test.YteejdnmmpmcmeaaGreatDoorK21
import Derived.Test.YteejdnmmpmcmeaaGreatDoorK29
namespace Go.Proofs.YteejdnmmpmcmeaaGreatDoor
open Go.RowKit
set_option linter.unusedVariables false
set_option maxRecDepth 100000 in
set_option maxHeartbeats 1000000 in
theorem specSa_w (wide deep:Int)(p:Option Addr)(n cap:Nat)(m:Nat→Nat→Bool)(w:World)(hn:n≤1000)
  (HM:Hid (∀(f t:Nat),f<n→t<n→ ∀w',Ext w w'→Calls Tryz.prog 189 #[hallV wide deep p n cap,slideV (f:Int) (t:Int)] w' fun e w''=>e= .returned (.bool (m f t))∧Ext w' w'')):
  Calls Tryz.prog 152 #[hallV wide deep p n cap] w (RetSlides (rowsN m n n) w):=by
 go_enter Tryz.func152,Tryz.ntmps152
 go_wp2
 go_loopw [3,4] (fun v i wr=> ∃(k:Nat) (q:Option Addr) (l c:Nat),k≤n∧i= .int .i64 k∧v= .slice q l c∧l≤k*n∧wr.ownsRow (w.heap.size+1) TSL 2 (.slice q l c) l ((rowsN m n k).flatMap slideCells)∧Ext w wr∧Blk wr w.heap.size TH3 #[.int .i64 wide,.int .i64 deep,.slice p n cap]) (fun _ i _=>n-(intOf i).toNat)
 case atStart=>
  have ho:((w.alloc (.cells #[.int .i64 wide,.int .i64 deep,.slice p n cap] TH3)).alloc (.cells #[] TSL)).ownsRow (w.heap.size+1) TSL 2 (.slice (some ⟨(w.alloc (.cells #[.int .i64 wide,.int .i64 deep,.slice p n cap] TH3)).heap.size,0,none⟩) 0 0) 0 []:=World.ownsRow_made _ #[] 0 (by simp) (by simp[maxLen]) rfl
  exact⟨0,_,0,0,Nat.zero_le _,rfl,rfl,by simp,by simpa[rowsN]using ho,by exact .alloc (.alloc (.refl _) _) _,(Blk.new w _ _).alloc _⟩
 case round=>
  obtain⟨k,q,l,c,hk,rfl,rfl,hlk,hown,hEw,hB⟩:=hrel
  have HO:=Lib.hid hown
  have HB:=Lib.hid hB
  have hsz:w.heap.size<wr.heap.size:=hB.lt
  have hln:Hid (l=(rowsN m n k).length):=by have:=hown.1;rw[flat_len slideCells 2 (fun _=>rfl)]at this;show _=_;omega
  clear hown hB
  obtain⟨b0,b1,b2⟩:=HB.out.cells3
  by_cases hlt:k<n
  ·have hkn:k*n≤1000000:=by have:=Nat.mul_le_mul (show k≤1000 by omega) hn;omega
   go_wp2
   obtain⟨wo,rfl⟩: ∃wo:World,wo=wr:=⟨_,rfl⟩
   clear b0 b1 b2
   go_loopw [3,5] (fun v i wr=> ∃(j:Nat) (q:Option Addr) (l c:Nat),j≤n∧i= .int .i64 j∧v= .slice q l c∧l≤k*n+j∧wr.ownsRow (w.heap.size+1) TSL 2 (.slice q l c) l ((rowsN m n k++rowN (m k) k j).flatMap slideCells)∧Ext w wr∧Blk wr w.heap.size TH3 #[.int .i64 wide,.int .i64 deep,.slice p n cap]) (fun _ i _=>n-(intOf i).toNat)
   case atStart=>exact⟨0,q,l,c,Nat.zero_le _,rfl,rfl,by omega,by simpa[rowN]using HO.out,hEw,HB.out⟩
   case round=>
    clear HO HB hsz hEw hln hlk
    obtain⟨j,q,l,c,hj,rfl,rfl,hlk,hown,hEw,hB⟩:=hrel
    have HO:=Lib.hid hown
    have HB:=Lib.hid hB
    have hsz:w.heap.size<wr.heap.size:=hB.lt
    clear hown hB
    obtain⟨b0,b1,b2⟩:=HB.out.cells3
    by_cases hlt2:j<n
    ·go_wp2_with fail
     refine(HM.out k j hlt hlt2 _ hEw).mono ?_
     rintro e w1 ⟨rfl,h1⟩
     have HO1:=Lib.hid (own_ext HO.out h1)
     have HB1:=Lib.hid (HB.out.ext h1)
     have hEw1:=Lib.hid (hEw.trans h1)
     have hsz1:w.heap.size<w1.heap.size:=HB1.out.lt
     clear h1 b0 b1 b2 HO HB hEw
     cases hm:m k j with
     |true=>
      have hfin:Hid (rowsN m n k++rowN (m k) k (j+1)=(rowsN m n k++rowN (m k) k j)++ [((k:Int),(j:Int))]):=by
       show _=_;rw[rowN,if_pos hm,List.append_assoc]
      clear hm
      go_wp2_with (at_builtin;refine wpList_append_el elSlide (f:=slideCells) (fun _=>rfl) (fun _ u hu=>by simp[slideCells]at hu;rcases hu with rfl|rfl<;>rfl) rfl _ _ rfl (w.heap.size+1) _ _ _ rfl (HO1.out.alloc _) _ _ ((k:Int),(j:Int)) _ rfl (cells_new2 _ _ _ _) (by omega) (by first|(simp;done)|(simp;omega)) ?_;intro p' cap' w2 hown1 hg1;have HO2:=Lib.hid hown1;have hE1:Ext w w2:=Ext.own (hEw1.out.alloc _) (HO1.out.alloc _) hg1 (by omega);have HB2:=Lib.hid (blk_far HO1.out hg1 HB1.out);clear hown1 hg1)
      go_roundw
      case rel=>exact⟨j+1,p',l+1,cap',by omega,by go_num,rfl,by omega,by rw[hfin.out];exact HO2.out,hE1,HB2.out⟩
      case measure=>simp[intOf];omega
     |false=>
      have hfin:Hid (rowsN m n k++rowN (m k) k (j+1)=rowsN m n k++rowN (m k) k j):=by
       show _=_;rw[rowN,if_neg (by rw[hm];simp),List.append_nil]
      clear hm
      go_wp2
      go_roundw
      case rel=>exact⟨j+1,q,l,c,by omega,by go_num,rfl,by omega,by rw[hfin.out];exact HO1.out,hEw1.out,HB1.out⟩
      case measure=>simp[intOf];omega
    ·have hfin:Hid (rowsN m n k++rowN (m k) k j=rowsN m n (k+1)):=by
      show _=_;rw[rowsN,show j=n by omega]
     have hk1:k*n+n=(k+1)*n:=(Nat.succ_mul k n).symm
     go_wp2
     go_roundw
     case rel=>exact⟨k+1,q,l,c,by omega,by go_num,rfl,by rw[←hk1];omega,by rw[←hfin.out];exact HO.out,hEw,HB.out⟩
     case measure=>simp[intOf];omega
  ·have hfin:Hid (rowsN m n k=rowsN m n n):=by
    show _=_;rw[show k=n by omega]
   go_wp2
   go_ret
   have hl2:(rowsN m n n).length=l:=by rw[←hfin.out];exact hln.out.symm
   subst hl2
   exact⟨q,c,rfl,by rw[hfin.out]at HO;exact own_base HO.out (Nat.le_succ _),hEw⟩
theorem slidesAll_w (wide deep:Int)(p:Option Addr)(n cap:Nat)(xs:List Int)(w:World)(hS:Sl w p n cap 1 (ivs xs))(hn:n≤1000):
  Calls Tryz.prog 152 #[hallV wide deep p n cap] w (RetSlides (slidesAll wide deep xs) w):=by
 have hl:=hS.ilen
 subst hl
 exact specSa_w wide deep p xs.length cap _ w hn (fun f t _ _ w' hx=>specSm wide deep f t p xs.length cap xs w' (hS.ext hx))
theorem slidesAll_len (wide deep:Int)(xs:List Int):(slidesAll wide deep xs).length≤xs.length*xs.length:=rowsN_len _ _ _
end Go.Proofs.YteejdnmmpmcmeaaGreatDoor

namespace Go.Proofs.YteejdnmmpmcmeaaGreatDoor
open Go.RowKit
set_option linter.unusedVariables false
def RandTariff (R k:Nat)(w:World)(e:Ending)(w':World):Prop:= ∃f s p c:Int,e= .returned (tariffV f s p c)∧Rand w' R (k+7)∧ExtR R w w'
theorem Blk.fourf {w:World}{g:Nat}{t:TypeId}{a b c d:Value}(h:Blk w g t #[a,b,c,d]):w.cell? ⟨g,0,none⟩=some a∧w.cell? ⟨g,1,none⟩=some b∧w.cell? ⟨g,2,none⟩=some c∧w.cell? ⟨g,3,none⟩=some d∧w.frozen? ⟨g,0,none⟩=false∧w.frozen? ⟨g,1,none⟩=false∧w.frozen? ⟨g,2,none⟩=false∧w.frozen? ⟨g,3,none⟩=false:=
 ⟨h.cell 0,h.cell 1,h.cell 2,h.cell 3,h.frozen 0,h.frozen 1,h.frozen 2,h.frozen 3⟩
theorem Blk.two {w:World}{g:Nat}{t:TypeId}{a b:Value}(h:Blk w g t #[a,b]):w.cell? ⟨g,0,none⟩=some a∧w.cell? ⟨g,1,none⟩=some b:=⟨h.cell 0,h.cell 1⟩
set_option maxRecDepth 100000 in
set_option maxHeartbeats 1000000 in
set_option maxHeartbeats 40000000 in
theorem l20Tariff_any (R k:Nat)(n:Int)(w:World)(hr:Rand w R k)(hk:k≤1099511627700)(hn:0≤n)(hn2:n≤1000000):
  Calls Tryz.prog 115 #[.pointer (some ⟨R,0,none⟩),.int .i64 n] w (RandTariff R k w):=by
 have hR:=hr.lt
 go_enter Tryz.func115,Tryz.ntmps115
 go_wp2_with fail
 refine(pick_any R (k) (4) _ (hr.ext (by exact .alloc (.refl _) _)) (by omega)).mono ?_
 rintro e w1 ⟨a,rfl,a0,a1,r1,x1⟩
 replace a1:a<4:=by omega
 have B1:Blk w1 w.heap.size 27 #[.int .i64 0,.int .i64 0,.int .i64 0,.int .i64 0]:=x1.blk (Blk.new _ _ _) (by omega)
 go_wp2_with fail
 refine(pick_any R (k+1) (6) _ (r1) (by omega)).mono ?_
 rintro e w2 ⟨b,rfl,b0,b1,r2,x2⟩
 replace b1:b<6:=by omega
 go_wp2_with fail
 refine(pick_any R (k+2) (9) _ (r2) (by omega)).mono ?_
 rintro e w3 ⟨c,rfl,c0,c1,r3,x3⟩
 replace c1:c<9:=by omega
 go_wp2_with fail
 refine(pick_any R (k+3) (60) _ (r3) (by omega)).mono ?_
 rintro e w4 ⟨d,rfl,d0,d1,r4,x4⟩
 replace d1:d<60:=by omega
 have B4:=x4.blk (x3.blk (x2.blk B1 (by omega)) (by omega)) (by omega)
 have X4:ExtR R w w4:=(((((ExtR.refl R w).alloc _).trans x1).trans x2).trans x3).trans x4
 have s4:=B4.lt
 have hR4:=r4.lt
 clear B1 x1 x2 x3 x4 r1 r2 r3 hr
 go_wp2_with fail
 refine(odd_any R (k+4) n _ (r4.ext (by exact .alloc (.refl _) _)) (by omega) hn hn2).mono ?_
 rintro e w5 ⟨t,rfl,r5,x5⟩
 have B5:=x5.blk (B4.alloc _) (by omega)
 have T5:=x5.blk (Blk.new w4 _ _) (by omega)
 have X5:ExtR R w w5:=(X4.alloc _).trans x5
 have s5:=T5.lt
 have hR5:=r5.lt
 clear B4 X4 x5 r4
 cases t with
 |false=>
  obtain⟨p0,p1,p2,p3,p4,p5,p6,p7⟩:=B5.fourf
  obtain⟨q0,q1,q2,q3,q4,q5,q6,q7⟩:=T5.fourf
  have hne:w4.heap.size≠w.heap.size:=by omega
  clear B5 T5
  go_wp2
  refine bodyPost_ret (v:=tariffV (a*10) (10+b*20) c (10+d)) (by simp[results,Tryz.results115,go_sem, *]) rfl ⟨_,_,_,_,rfl,?_,?_⟩
  ·exact Rand.mono (k:=k+4+1) (by(repeat' (first|(with_reducible assumption)|(with_reducible refine Rand.alloc ?_ _)|(with_reducible refine Rand.setCell ?_ (by first|exact Nat.le_refl _|(dsimp only;omega)|(simp;done)|(simp;omega)) _)|(with_reducible refine Rand.drew ?_)|(with_reducible refine Rand.drewN ?_ _)|(refine Rand.ext ?_ (by with_reducible assumption))))) (by omega)
  ·(repeat' (first|exact ExtR.refl _ _|(with_reducible assumption)|(with_reducible refine ExtR.alloc ?_ _)|(with_reducible refine ExtR.setCell ?_ (.inr (by first|exact Nat.le_refl _|(dsimp only;omega)|(simp;done)|(simp;omega))) _)|(with_reducible refine ExtR.drew ?_)|(with_reducible refine ExtR.drewN ?_ _)|(refine ExtR.trans ?_ (by with_reducible assumption))|(refine ExtR.ext ?_ (by with_reducible assumption))))
 |true=>
  go_wp2_with fail
  refine(pick_any R (k+5) (3) _ (r5) (by omega)).mono ?_
  rintro e w6 ⟨u,rfl,u0,u1,r6,x6⟩
  replace u1:u<3:=by omega
  have B6:=x6.blk B5 (by omega)
  have T6:=x6.blk T5 (by omega)
  have X6:=Lib.hid (X5.trans x6)
  have s6:=T6.lt
  have hR6:=r6.lt
  clear B5 T5 x6 X5 r5
  have hu:u=0∨u=1∨u=2:=by omega
  clear u0 u1
  rcases hu with rfl|rfl|rfl
  ·skip
   go_wp2_with fail
   refine(pick_any R (k+6) (2) _ (r6.ext (by exact .alloc (.refl _) _)) (by omega)).mono ?_
   rintro e w7 ⟨v,rfl,v0,v1,r7,x7⟩
   replace v1:v<2:=by omega
   have B7:=x7.blk (B6.alloc _) (by omega)
   have T7:=x7.blk (T6.alloc _) (by omega)
   have S7:=x7.blk (Blk.new w6 _ _) (by omega)
   have X7:=Lib.hid ((X6.out.alloc _).trans x7)
   have s7:=S7.lt
   have hR7:=r7.lt
   obtain⟨p0,p1,p2,p3,p4,p5,p6,p7⟩:=B7.fourf
   obtain⟨q0,q1,q2,q3,q4,q5,q6,q7⟩:=T7.fourf
   obtain⟨g0,g1⟩:=S7.two
   have hne:w4.heap.size≠w.heap.size:=by omega
   have hne2:w6.heap.size≠w4.heap.size:=by omega
   have hne3:w6.heap.size≠w.heap.size:=by omega
   clear B6 T6 B7 T7 S7 x7 r6
   have XX:=X7.out
   have hv:v=0∨v=1:=by omega
   clear v0 v1 X6 X7
   rcases hv with rfl|rfl
   ·go_wp2
    refine bodyPost_ret (v:=tariffV (a*10) 0 c (10+d)) (by simp[results,Tryz.results115,go_sem, *]) rfl ⟨_,_,_,_,rfl,?_,?_⟩
    ·(repeat' (first|(with_reducible assumption)|(with_reducible refine Rand.alloc ?_ _)|(with_reducible refine Rand.setCell ?_ (by first|exact Nat.le_refl _|(dsimp only;omega)|(simp;done)|(simp;omega)) _)|(with_reducible refine Rand.drew ?_)|(with_reducible refine Rand.drewN ?_ _)|(refine Rand.ext ?_ (by with_reducible assumption))))
    ·(repeat' (first|exact ExtR.refl _ _|(with_reducible assumption)|(with_reducible refine ExtR.alloc ?_ _)|(with_reducible refine ExtR.setCell ?_ (.inr (by first|exact Nat.le_refl _|(dsimp only;omega)|(simp;done)|(simp;omega))) _)|(with_reducible refine ExtR.drew ?_)|(with_reducible refine ExtR.drewN ?_ _)|(refine ExtR.trans ?_ (by with_reducible assumption))|(refine ExtR.ext ?_ (by with_reducible assumption))))
   ·go_wp2
    refine bodyPost_ret (v:=tariffV (a*10) 1441 c (10+d)) (by simp[results,Tryz.results115,go_sem, *]) rfl ⟨_,_,_,_,rfl,?_,?_⟩
    ·(repeat' (first|(with_reducible assumption)|(with_reducible refine Rand.alloc ?_ _)|(with_reducible refine Rand.setCell ?_ (by first|exact Nat.le_refl _|(dsimp only;omega)|(simp;done)|(simp;omega)) _)|(with_reducible refine Rand.drew ?_)|(with_reducible refine Rand.drewN ?_ _)|(refine Rand.ext ?_ (by with_reducible assumption))))
    ·(repeat' (first|exact ExtR.refl _ _|(with_reducible assumption)|(with_reducible refine ExtR.alloc ?_ _)|(with_reducible refine ExtR.setCell ?_ (.inr (by first|exact Nat.le_refl _|(dsimp only;omega)|(simp;done)|(simp;omega))) _)|(with_reducible refine ExtR.drew ?_)|(with_reducible refine ExtR.drewN ?_ _)|(refine ExtR.trans ?_ (by with_reducible assumption))|(refine ExtR.ext ?_ (by with_reducible assumption))))
  ·skip
   go_wp2_with fail
   refine(pick_any R (k+6) (2) _ (r6.ext (by exact .alloc (.refl _) _)) (by omega)).mono ?_
   rintro e w7 ⟨v,rfl,v0,v1,r7,x7⟩
   replace v1:v<2:=by omega
   have B7:=x7.blk (B6.alloc _) (by omega)
   have T7:=x7.blk (T6.alloc _) (by omega)
   have S7:=x7.blk (Blk.new w6 _ _) (by omega)
   have X7:=Lib.hid ((X6.out.alloc _).trans x7)
   have s7:=S7.lt
   have hR7:=r7.lt
   obtain⟨p0,p1,p2,p3,p4,p5,p6,p7⟩:=B7.fourf
   obtain⟨q0,q1,q2,q3,q4,q5,q6,q7⟩:=T7.fourf
   obtain⟨g0,g1⟩:=S7.two
   have hne:w4.heap.size≠w.heap.size:=by omega
   have hne2:w6.heap.size≠w4.heap.size:=by omega
   have hne3:w6.heap.size≠w.heap.size:=by omega
   clear B6 T6 B7 T7 S7 x7 r6
   have XX:=X7.out
   have hv:v=0∨v=1:=by omega
   clear v0 v1 X6 X7
   rcases hv with rfl|rfl
   ·go_wp2
    refine bodyPost_ret (v:=tariffV (-1) (10+b*20) c (10+d)) (by simp[results,Tryz.results115,go_sem, *]) rfl ⟨_,_,_,_,rfl,?_,?_⟩
    ·(repeat' (first|(with_reducible assumption)|(with_reducible refine Rand.alloc ?_ _)|(with_reducible refine Rand.setCell ?_ (by first|exact Nat.le_refl _|(dsimp only;omega)|(simp;done)|(simp;omega)) _)|(with_reducible refine Rand.drew ?_)|(with_reducible refine Rand.drewN ?_ _)|(refine Rand.ext ?_ (by with_reducible assumption))))
    ·(repeat' (first|exact ExtR.refl _ _|(with_reducible assumption)|(with_reducible refine ExtR.alloc ?_ _)|(with_reducible refine ExtR.setCell ?_ (.inr (by first|exact Nat.le_refl _|(dsimp only;omega)|(simp;done)|(simp;omega))) _)|(with_reducible refine ExtR.drew ?_)|(with_reducible refine ExtR.drewN ?_ _)|(refine ExtR.trans ?_ (by with_reducible assumption))|(refine ExtR.ext ?_ (by with_reducible assumption))))
   ·go_wp2
    refine bodyPost_ret (v:=tariffV 1440 (10+b*20) c (10+d)) (by simp[results,Tryz.results115,go_sem, *]) rfl ⟨_,_,_,_,rfl,?_,?_⟩
    ·(repeat' (first|(with_reducible assumption)|(with_reducible refine Rand.alloc ?_ _)|(with_reducible refine Rand.setCell ?_ (by first|exact Nat.le_refl _|(dsimp only;omega)|(simp;done)|(simp;omega)) _)|(with_reducible refine Rand.drew ?_)|(with_reducible refine Rand.drewN ?_ _)|(refine Rand.ext ?_ (by with_reducible assumption))))
    ·(repeat' (first|exact ExtR.refl _ _|(with_reducible assumption)|(with_reducible refine ExtR.alloc ?_ _)|(with_reducible refine ExtR.setCell ?_ (.inr (by first|exact Nat.le_refl _|(dsimp only;omega)|(simp;done)|(simp;omega))) _)|(with_reducible refine ExtR.drew ?_)|(with_reducible refine ExtR.drewN ?_ _)|(refine ExtR.trans ?_ (by with_reducible assumption))|(refine ExtR.ext ?_ (by with_reducible assumption))))
  ·skip
   go_wp2_with fail
   refine(pick_any R (k+6) (2) _ (r6.ext (by exact .alloc (.refl _) _)) (by omega)).mono ?_
   rintro e w7 ⟨v,rfl,v0,v1,r7,x7⟩
   replace v1:v<2:=by omega
   have B7:=x7.blk (B6.alloc _) (by omega)
   have T7:=x7.blk (T6.alloc _) (by omega)
   have S7:=x7.blk (Blk.new w6 _ _) (by omega)
   have X7:=Lib.hid ((X6.out.alloc _).trans x7)
   have s7:=S7.lt
   have hR7:=r7.lt
   obtain⟨p0,p1,p2,p3,p4,p5,p6,p7⟩:=B7.fourf
   obtain⟨q0,q1,q2,q3,q4,q5,q6,q7⟩:=T7.fourf
   obtain⟨g0,g1⟩:=S7.two
   have hne:w4.heap.size≠w.heap.size:=by omega
   have hne2:w6.heap.size≠w4.heap.size:=by omega
   have hne3:w6.heap.size≠w.heap.size:=by omega
   clear B6 T6 B7 T7 S7 x7 r6
   have XX:=X7.out
   have hv:v=0∨v=1:=by omega
   clear v0 v1 X6 X7
   rcases hv with rfl|rfl
   ·go_wp2
    refine bodyPost_ret (v:=tariffV (a*10) (10+b*20) c (-1)) (by simp[results,Tryz.results115,go_sem, *]) rfl ⟨_,_,_,_,rfl,?_,?_⟩
    ·(repeat' (first|(with_reducible assumption)|(with_reducible refine Rand.alloc ?_ _)|(with_reducible refine Rand.setCell ?_ (by first|exact Nat.le_refl _|(dsimp only;omega)|(simp;done)|(simp;omega)) _)|(with_reducible refine Rand.drew ?_)|(with_reducible refine Rand.drewN ?_ _)|(refine Rand.ext ?_ (by with_reducible assumption))))
    ·(repeat' (first|exact ExtR.refl _ _|(with_reducible assumption)|(with_reducible refine ExtR.alloc ?_ _)|(with_reducible refine ExtR.setCell ?_ (.inr (by first|exact Nat.le_refl _|(dsimp only;omega)|(simp;done)|(simp;omega))) _)|(with_reducible refine ExtR.drew ?_)|(with_reducible refine ExtR.drewN ?_ _)|(refine ExtR.trans ?_ (by with_reducible assumption))|(refine ExtR.ext ?_ (by with_reducible assumption))))
   ·go_wp2
    refine bodyPost_ret (v:=tariffV (a*10) (10+b*20) c 100) (by simp[results,Tryz.results115,go_sem, *]) rfl ⟨_,_,_,_,rfl,?_,?_⟩
    ·(repeat' (first|(with_reducible assumption)|(with_reducible refine Rand.alloc ?_ _)|(with_reducible refine Rand.setCell ?_ (by first|exact Nat.le_refl _|(dsimp only;omega)|(simp;done)|(simp;omega)) _)|(with_reducible refine Rand.drew ?_)|(with_reducible refine Rand.drewN ?_ _)|(refine Rand.ext ?_ (by with_reducible assumption))))
    ·(repeat' (first|exact ExtR.refl _ _|(with_reducible assumption)|(with_reducible refine ExtR.alloc ?_ _)|(with_reducible refine ExtR.setCell ?_ (.inr (by first|exact Nat.le_refl _|(dsimp only;omega)|(simp;done)|(simp;omega))) _)|(with_reducible refine ExtR.drew ?_)|(with_reducible refine ExtR.drewN ?_ _)|(refine ExtR.trans ?_ (by with_reducible assumption))|(refine ExtR.ext ?_ (by with_reducible assumption))))
end Go.Proofs.YteejdnmmpmcmeaaGreatDoor

namespace Go.Proofs.YteejdnmmpmcmeaaGreatDoor
open Go.RowKit
set_option linter.unusedVariables false
set_option linter.unusedSimpArgs false
def houseNew (wide deep f s p c:Int):HouseD:=if tariffOk f s p c=true∧2≤wide∧wide≤4∧2≤deep∧deep≤3 then⟨wide,deep,List.replicate (wide*deep).toNat 0,f,s,p,c,0,0,[]⟩else houseZero
theorem ret_house0 {w w':World}{W D:Int}{xs:List Int}{f s p c:Int}{q:Option Addr}{cap:Nat}(ho:w'.ownsRow w.heap.size TI 1 (.slice q xs.length cap) xs.length (ivs xs))(hx:Ext w w'):
  RetHouse ⟨W,D,xs,f,s,p,c,0,0,[]⟩ w (.returned (houseV ⟨W,D,xs,f,s,p,c,0,0,[]⟩ q xs.length cap none 0 0)) w':=⟨q,cap,none,0,rfl,ho,World.ownsRow_nil _ _ _ _,hx⟩
theorem own_blk_ne {w:World}{B n:Nat}{q:Option Addr}{cap:Nat}{xs:List Value}{g:Nat}{t:TypeId}{cs:Array Value}(ho:w.ownsRow B TI 1 (.slice q n cap) n xs)(hb:Blk w g t cs)(ht:t≠TI):(Value.slice q n cap).ownBlock≠some g:=by
 intro he
 rcases ho.2 with⟨h1,h2⟩|⟨g',cap',cur,h1,hb',hg,hn,hm,hs,ht'⟩
 ·injection h1 with e1;subst e1;simp[Value.ownBlock]at he
 ·injection h1 with e1 e2 e3
  subst e1
  simp[Value.ownBlock]at he
  subst he
  unfold Blk at hb
  rw[hb]at hg
  injection hg with e;injection e with e1 e2
  exact ht e2
set_option maxRecDepth 100000 in
set_option maxHeartbeats 1000000 in
theorem specHn_no1 (wide deep free step price capp W D:Int)(xs:List Int)(w:World)(tok:Bool)(HE:Hid (∀w',Ext w w'→Calls Tryz.prog 145 #[.int .i64 wide,.int .i64 deep] w' (RetHall W D xs w')))
  (HV:Hid (∀w' p c,Sl w' p xs.length c 1 (ivs xs)→Calls Tryz.prog 64 #[hallV W D p xs.length c] w' fun e w''=>e= .returned (.bool false)∧Ext w' w''))
  (HT:Hid (∀w',Calls Tryz.prog 65 #[tariffV free step price capp] w' fun e w''=>e= .returned (.bool tok)∧Ext w' w'')):
  Calls Tryz.prog 114 #[.int .i64 wide,.int .i64 deep,tariffV free step price capp] w (RetHouse houseZero w):=by
 go_enter Tryz.func114,Tryz.ntmps114
 go_wp2_with fail
 refine(HE.out _ (by exact .alloc (.alloc (.refl _) _) _)).mono ?_
 rintro e w1 ⟨p1,c1,rfl,o1,hx1⟩
 have BT:Blk w1 (w.heap.size) 27 #[.int .i64 free,.int .i64 step,.int .i64 price,.int .i64 capp]:=by have:=(Blk.new w 27 #[.int .i64 free,.int .i64 step,.int .i64 price,.int .i64 capp]).ext (((Ext.refl _).alloc _).trans hx1);simpa using this
 have BZ:Blk w1 (w.heap.size+1) 30 #[.int .i64 0,.int .i64 0,.slice none 0 0,.int .i64 0,.int .i64 0,.int .i64 0,.int .i64 0,.int .i64 0,.int .i64 0,.slice none 0 0]:=by have:=(Blk.new (w.alloc (.cells #[.int .i64 free,.int .i64 step,.int .i64 price,.int .i64 capp] 27)) 30 #[.int .i64 0,.int .i64 0,.slice none 0 0,.int .i64 0,.int .i64 0,.int .i64 0,.int .i64 0,.int .i64 0,.int .i64 0,.slice none 0 0]).ext ((Ext.refl _).trans hx1);simpa using this
 have X1:=Lib.hid (show Ext w w1 by exact .trans (.alloc (.alloc (.refl _) _) _) hx1)
 have O1:=Lib.hid (own_base o1 (show w.heap.size≤_ by simp;omega))
 have H1:=Lib.hid (Sl.own O1.out)
 have BTH:=Lib.hid BT
 have BZH:=Lib.hid BZ
 have s1:w.heap.size+1<w1.heap.size:=BZ.lt
 clear BT BZ o1 hx1
 go_wp2_with fail
 refine(HV.out _ _ _ (H1.out.ext (by exact .alloc (.refl _) _))).mono ?_
 rintro e w2 ⟨rfl,hx2⟩
 have BH2:=Lib.hid ((Blk.new w1 25 #[.int .i64 W,.int .i64 D,.slice p1 xs.length c1]).ext hx2)
 have hy2:Ext w1 w2:=by exact .trans (.alloc (.refl _) _) hx2
 have BT2:=Lib.hid (BTH.out.ext hy2)
 have BZ2:=Lib.hid (BZH.out.ext hy2)
 have O2:=Lib.hid (own_ext O1.out hy2)
 have X2:=Lib.hid (X1.out.trans hy2)
 have s2:w1.heap.size<w2.heap.size:=BH2.out.lt
 clear hx2 hy2 BTH BZH O1 X1 H1
 obtain⟨z0,zf0,z1,zf1,z2,zf2,z3,zf3,z4,zf4,z5,zf5,z6,zf6,z7,zf7,z8,zf8,z9,zf9⟩:=(BZ2.out).tenf
 go_wp2
 exact bodyPost_ret (v:= .agg #[.int .i64 0,.int .i64 0,.slice none 0 0,.int .i64 0,.int .i64 0,.int .i64 0,.int .i64 0,.int .i64 0,.int .i64 0,.slice none 0 0]) (by simp[results,Tryz.results114,go_sem, *]) rfl ⟨none,0,none,0,rfl,World.ownsRow_nil _ _ _ _,World.ownsRow_nil _ _ _ _,((((((((((X2.out.setCell (p:=⟨w.heap.size+1,0,none⟩) (by dsimp only;omega) (.int .i64 0)).setCell (p:=⟨w.heap.size+1,1,none⟩) (by dsimp only;omega) (.int .i64 0)).setCell (p:=⟨w.heap.size+1,2,none⟩) (by dsimp only;omega) (.slice none 0 0)).setCell (p:=⟨w.heap.size+1,3,none⟩) (by dsimp only;omega) (.int .i64 0)).setCell (p:=⟨w.heap.size+1,4,none⟩) (by dsimp only;omega) (.int .i64 0)).setCell (p:=⟨w.heap.size+1,5,none⟩) (by dsimp only;omega) (.int .i64 0)).setCell (p:=⟨w.heap.size+1,6,none⟩) (by dsimp only;omega) (.int .i64 0)).setCell (p:=⟨w.heap.size+1,7,none⟩) (by dsimp only;omega) (.int .i64 0)).setCell (p:=⟨w.heap.size+1,8,none⟩) (by dsimp only;omega) (.int .i64 0)).setCell (p:=⟨w.heap.size+1,9,none⟩) (by dsimp only;omega) (.slice none 0 0))⟩
set_option maxRecDepth 100000 in
set_option maxHeartbeats 1000000 in
theorem specHn_no2 (wide deep free step price capp W D:Int)(xs:List Int)(w:World)(tok:Bool)(HE:Hid (∀w',Ext w w'→Calls Tryz.prog 145 #[.int .i64 wide,.int .i64 deep] w' (RetHall W D xs w')))
  (HV:Hid (∀w' p c,Sl w' p xs.length c 1 (ivs xs)→Calls Tryz.prog 64 #[hallV W D p xs.length c] w' fun e w''=>e= .returned (.bool true)∧Ext w' w''))
  (HT:Hid (∀w',Calls Tryz.prog 65 #[tariffV free step price capp] w' fun e w''=>e= .returned (.bool false)∧Ext w' w'')):
  Calls Tryz.prog 114 #[.int .i64 wide,.int .i64 deep,tariffV free step price capp] w (RetHouse houseZero w):=by
 go_enter Tryz.func114,Tryz.ntmps114
 go_wp2_with fail
 refine(HE.out _ (by exact .alloc (.alloc (.refl _) _) _)).mono ?_
 rintro e w1 ⟨p1,c1,rfl,o1,hx1⟩
 have BT:Blk w1 (w.heap.size) 27 #[.int .i64 free,.int .i64 step,.int .i64 price,.int .i64 capp]:=by have:=(Blk.new w 27 #[.int .i64 free,.int .i64 step,.int .i64 price,.int .i64 capp]).ext (((Ext.refl _).alloc _).trans hx1);simpa using this
 have BZ:Blk w1 (w.heap.size+1) 30 #[.int .i64 0,.int .i64 0,.slice none 0 0,.int .i64 0,.int .i64 0,.int .i64 0,.int .i64 0,.int .i64 0,.int .i64 0,.slice none 0 0]:=by have:=(Blk.new (w.alloc (.cells #[.int .i64 free,.int .i64 step,.int .i64 price,.int .i64 capp] 27)) 30 #[.int .i64 0,.int .i64 0,.slice none 0 0,.int .i64 0,.int .i64 0,.int .i64 0,.int .i64 0,.int .i64 0,.int .i64 0,.slice none 0 0]).ext ((Ext.refl _).trans hx1);simpa using this
 have X1:=Lib.hid (show Ext w w1 by exact .trans (.alloc (.alloc (.refl _) _) _) hx1)
 have O1:=Lib.hid (own_base o1 (show w.heap.size≤_ by simp;omega))
 have H1:=Lib.hid (Sl.own O1.out)
 have BTH:=Lib.hid BT
 have BZH:=Lib.hid BZ
 have s1:w.heap.size+1<w1.heap.size:=BZ.lt
 clear BT BZ o1 hx1
 go_wp2_with fail
 refine(HV.out _ _ _ (H1.out.ext (by exact .alloc (.refl _) _))).mono ?_
 rintro e w2 ⟨rfl,hx2⟩
 have BH2:=Lib.hid ((Blk.new w1 25 #[.int .i64 W,.int .i64 D,.slice p1 xs.length c1]).ext hx2)
 have hy2:Ext w1 w2:=by exact .trans (.alloc (.refl _) _) hx2
 have BT2:=Lib.hid (BTH.out.ext hy2)
 have BZ2:=Lib.hid (BZH.out.ext hy2)
 have O2:=Lib.hid (own_ext O1.out hy2)
 have X2:=Lib.hid (X1.out.trans hy2)
 have s2:w1.heap.size<w2.heap.size:=BH2.out.lt
 clear hx2 hy2 BTH BZH O1 X1 H1
 have t0:w2.cell? ⟨w.heap.size,0,none⟩=some (.int .i64 free):=BT2.out.cell 0
 have t1:w2.cell? ⟨w.heap.size,1,none⟩=some (.int .i64 step):=BT2.out.cell 1
 have t2:w2.cell? ⟨w.heap.size,2,none⟩=some (.int .i64 price):=BT2.out.cell 2
 have t3:w2.cell? ⟨w.heap.size,3,none⟩=some (.int .i64 capp):=BT2.out.cell 3
 go_wp2_with fail
 clear t0 t1 t2 t3
 refine(HT.out _).mono ?_
 rintro e w3 ⟨rfl,hx3⟩
 have BT3:=Lib.hid (BT2.out.ext hx3)
 have BZ3:=Lib.hid (BZ2.out.ext hx3)
 have BH3:=Lib.hid (BH2.out.ext hx3)
 have O3:=Lib.hid (own_ext O2.out hx3)
 have X3:=Lib.hid (X2.out.trans hx3)
 have s3:w2.heap.size≤w3.heap.size:=hx3.sz
 clear hx3 BT2 BZ2 BH2 O2 X2
 obtain⟨z0,zf0,z1,zf1,z2,zf2,z3,zf3,z4,zf4,z5,zf5,z6,zf6,z7,zf7,z8,zf8,z9,zf9⟩:=(BZ3.out).tenf
 go_wp2
 exact bodyPost_ret (v:= .agg #[.int .i64 0,.int .i64 0,.slice none 0 0,.int .i64 0,.int .i64 0,.int .i64 0,.int .i64 0,.int .i64 0,.int .i64 0,.slice none 0 0]) (by simp[results,Tryz.results114,go_sem, *]) rfl ⟨none,0,none,0,rfl,World.ownsRow_nil _ _ _ _,World.ownsRow_nil _ _ _ _,((((((((((X3.out.setCell (p:=⟨w.heap.size+1,0,none⟩) (by dsimp only;omega) (.int .i64 0)).setCell (p:=⟨w.heap.size+1,1,none⟩) (by dsimp only;omega) (.int .i64 0)).setCell (p:=⟨w.heap.size+1,2,none⟩) (by dsimp only;omega) (.slice none 0 0)).setCell (p:=⟨w.heap.size+1,3,none⟩) (by dsimp only;omega) (.int .i64 0)).setCell (p:=⟨w.heap.size+1,4,none⟩) (by dsimp only;omega) (.int .i64 0)).setCell (p:=⟨w.heap.size+1,5,none⟩) (by dsimp only;omega) (.int .i64 0)).setCell (p:=⟨w.heap.size+1,6,none⟩) (by dsimp only;omega) (.int .i64 0)).setCell (p:=⟨w.heap.size+1,7,none⟩) (by dsimp only;omega) (.int .i64 0)).setCell (p:=⟨w.heap.size+1,8,none⟩) (by dsimp only;omega) (.int .i64 0)).setCell (p:=⟨w.heap.size+1,9,none⟩) (by dsimp only;omega) (.slice none 0 0))⟩
set_option maxRecDepth 100000 in
set_option maxHeartbeats 1000000 in
theorem specHn_yes (wide deep free step price capp W D:Int)(xs:List Int)(w:World)(tok:Bool)(HE:Hid (∀w',Ext w w'→Calls Tryz.prog 145 #[.int .i64 wide,.int .i64 deep] w' (RetHall W D xs w')))
  (HV:Hid (∀w' p c,Sl w' p xs.length c 1 (ivs xs)→Calls Tryz.prog 64 #[hallV W D p xs.length c] w' fun e w''=>e= .returned (.bool true)∧Ext w' w''))
  (HT:Hid (∀w',Calls Tryz.prog 65 #[tariffV free step price capp] w' fun e w''=>e= .returned (.bool true)∧Ext w' w'')):
  Calls Tryz.prog 114 #[.int .i64 wide,.int .i64 deep,tariffV free step price capp] w (RetHouse ⟨W,D,xs,free,step,price,capp,0,0,[]⟩ w):=by
 go_enter Tryz.func114,Tryz.ntmps114
 go_wp2_with fail
 refine(HE.out _ (by exact .alloc (.alloc (.refl _) _) _)).mono ?_
 rintro e w1 ⟨p1,c1,rfl,o1,hx1⟩
 have BT:Blk w1 (w.heap.size) 27 #[.int .i64 free,.int .i64 step,.int .i64 price,.int .i64 capp]:=by have:=(Blk.new w 27 #[.int .i64 free,.int .i64 step,.int .i64 price,.int .i64 capp]).ext (((Ext.refl _).alloc _).trans hx1);simpa using this
 have BZ:Blk w1 (w.heap.size+1) 30 #[.int .i64 0,.int .i64 0,.slice none 0 0,.int .i64 0,.int .i64 0,.int .i64 0,.int .i64 0,.int .i64 0,.int .i64 0,.slice none 0 0]:=by have:=(Blk.new (w.alloc (.cells #[.int .i64 free,.int .i64 step,.int .i64 price,.int .i64 capp] 27)) 30 #[.int .i64 0,.int .i64 0,.slice none 0 0,.int .i64 0,.int .i64 0,.int .i64 0,.int .i64 0,.int .i64 0,.int .i64 0,.slice none 0 0]).ext ((Ext.refl _).trans hx1);simpa using this
 have X1:=Lib.hid (show Ext w w1 by exact .trans (.alloc (.alloc (.refl _) _) _) hx1)
 have O1:=Lib.hid (own_base o1 (show w.heap.size≤_ by simp;omega))
 have H1:=Lib.hid (Sl.own O1.out)
 have BTH:=Lib.hid BT
 have BZH:=Lib.hid BZ
 have s1:w.heap.size+1<w1.heap.size:=BZ.lt
 clear BT BZ o1 hx1
 go_wp2_with fail
 refine(HV.out _ _ _ (H1.out.ext (by exact .alloc (.refl _) _))).mono ?_
 rintro e w2 ⟨rfl,hx2⟩
 have BH2:=Lib.hid ((Blk.new w1 25 #[.int .i64 W,.int .i64 D,.slice p1 xs.length c1]).ext hx2)
 have hy2:Ext w1 w2:=by exact .trans (.alloc (.refl _) _) hx2
 have BT2:=Lib.hid (BTH.out.ext hy2)
 have BZ2:=Lib.hid (BZH.out.ext hy2)
 have O2:=Lib.hid (own_ext O1.out hy2)
 have X2:=Lib.hid (X1.out.trans hy2)
 have s2:w1.heap.size<w2.heap.size:=BH2.out.lt
 clear hx2 hy2 BTH BZH O1 X1 H1
 have t0:w2.cell? ⟨w.heap.size,0,none⟩=some (.int .i64 free):=BT2.out.cell 0
 have t1:w2.cell? ⟨w.heap.size,1,none⟩=some (.int .i64 step):=BT2.out.cell 1
 have t2:w2.cell? ⟨w.heap.size,2,none⟩=some (.int .i64 price):=BT2.out.cell 2
 have t3:w2.cell? ⟨w.heap.size,3,none⟩=some (.int .i64 capp):=BT2.out.cell 3
 go_wp2_with fail
 clear t0 t1 t2 t3
 refine(HT.out _).mono ?_
 rintro e w3 ⟨rfl,hx3⟩
 have BT3:=Lib.hid (BT2.out.ext hx3)
 have BZ3:=Lib.hid (BZ2.out.ext hx3)
 have BH3:=Lib.hid (BH2.out.ext hx3)
 have O3:=Lib.hid (own_ext O2.out hx3)
 have X3:=Lib.hid (X2.out.trans hx3)
 have s3:w2.heap.size≤w3.heap.size:=hx3.sz
 clear hx3 BT2 BZ2 BH2 O2 X2
 have t0:w3.cell? ⟨w.heap.size,0,none⟩=some (.int .i64 free):=BT3.out.cell 0
 have t1:w3.cell? ⟨w.heap.size,1,none⟩=some (.int .i64 step):=BT3.out.cell 1
 have t2:w3.cell? ⟨w.heap.size,2,none⟩=some (.int .i64 price):=BT3.out.cell 2
 have t3:w3.cell? ⟨w.heap.size,3,none⟩=some (.int .i64 capp):=BT3.out.cell 3
 have h0:w3.cell? ⟨w1.heap.size,0,none⟩=some (.int .i64 W):=BH3.out.cell 0
 have h1:w3.cell? ⟨w1.heap.size,1,none⟩=some (.int .i64 D):=BH3.out.cell 1
 have h2:w3.cell? ⟨w1.heap.size,2,none⟩=some (.slice p1 xs.length c1):=BH3.out.cell 2
 obtain⟨z0,zf0,z1,zf1,z2,zf2,z3,zf3,z4,zf4,z5,zf5,z6,zf6,z7,zf7,z8,zf8,z9,zf9⟩:=(BZ3.out).tenf
 go_wp2
 generalize hw5:World.setCell _ _ _=w5
 have hR:ExtR (w.heap.size+1) w3 w5:=by rw[←hw5];exact((((((((((ExtR.refl (w.heap.size+1) w3).setCell (p:=⟨w.heap.size+1,0,none⟩) (.inl rfl) (.int .i64 W)).setCell (p:=⟨w.heap.size+1,1,none⟩) (.inl rfl) (.int .i64 D)).setCell (p:=⟨w.heap.size+1,2,none⟩) (.inl rfl) (.slice p1 xs.length c1)).setCell (p:=⟨w.heap.size+1,3,none⟩) (.inl rfl) (.int .i64 free)).setCell (p:=⟨w.heap.size+1,4,none⟩) (.inl rfl) (.int .i64 step)).setCell (p:=⟨w.heap.size+1,5,none⟩) (.inl rfl) (.int .i64 price)).setCell (p:=⟨w.heap.size+1,6,none⟩) (.inl rfl) (.int .i64 capp)).setCell (p:=⟨w.heap.size+1,7,none⟩) (.inl rfl) (.int .i64 0)).setCell (p:=⟨w.heap.size+1,8,none⟩) (.inl rfl) (.int .i64 0)).setCell (p:=⟨w.heap.size+1,9,none⟩) (.inl rfl) (.slice none 0 0)
 have O5:=O3.out.kept hR (.inr (own_blk_ne O3.out BZ3.out (by decide)))
 have X5:=ExtR.new X3.out hR (by omega)
 have Y5:=((((((((((BZ3.out).set 0 (.int .i64 W)).set 1 (.int .i64 D)).set 2 (.slice p1 xs.length c1)).set 3 (.int .i64 free)).set 4 (.int .i64 step)).set 5 (.int .i64 price)).set 6 (.int .i64 capp)).set 7 (.int .i64 0)).set 8 (.int .i64 0)).set 9 (.slice none 0 0)
 simp only[List.setIfInBounds_toArray,List.set_cons_zero,List.set_cons_succ]at Y5
 rw[hw5]at Y5
 clear hw5 z0 zf0 z1 zf1 z2 zf2 z3 zf3 z4 zf4 z5 zf5 z6 zf6 z7 zf7 z8 zf8 z9 zf9 t0 t1 t2 t3 h0 h1 h2
 obtain⟨y0,y1,y2,y3,y4,y5,y6,y7,y8,y9⟩:=(Y5).ten
 exact bodyPost_ret (v:= .agg #[.int .i64 W,.int .i64 D,.slice p1 xs.length c1,.int .i64 free,.int .i64 step,.int .i64 price,.int .i64 capp,.int .i64 0,.int .i64 0,.slice none 0 0]) (by simp[results,Tryz.results114,go_sem, *]) rfl (ret_house0 O5 X5)
theorem specHe (wide deep:Int)(w:World):Calls Tryz.prog 145 #[.int .i64 wide,.int .i64 deep] w (RetHall (emptyHall wide deep).1 (emptyHall wide deep).2.1 (emptyHall wide deep).2.2 w):=by
 by_cases h:2≤wide∧wide≤4∧2≤deep∧deep≤3
 ·have h1:emptyHall wide deep=(wide,deep,List.replicate (wide*deep).toNat 0):=by unfold emptyHall;rw[if_pos h]
  rw[h1]
  obtain⟨a,b,c,d⟩:=h
  have h4:0≤wide*deep:=Int.mul_nonneg (by omega) (by omega)
  have h5:wide*deep≤12:=by have:=Int.mul_le_mul b d (by omega) (by omega);omega
  exact specHe_ok wide deep (wide*deep).toNat w a b c d h4 h5 (by omega) (by omega)
 ·have h1:emptyHall wide deep=(0,0,[]):=by unfold emptyHall;rw[if_neg h]
  rw[h1]
  exact specHe_bad wide deep w (by omega)
theorem hallOk_new {wide deep:Int}(h:2≤wide∧wide≤4∧2≤deep∧deep≤3):hallOk wide deep (List.replicate (wide*deep).toNat 0)=true:=by
 obtain⟨h0,h1,h2,h3⟩:=h
 have h4:0≤wide*deep:=Int.mul_nonneg (by omega) (by omega)
 unfold hallOk
 rw[Bool.and_eq_true]
 refine⟨by simp only[shapeOk,decide_eq_true_eq,List.length_replicate];omega,?_⟩
 rw[cellsOk_iff]
 refine⟨fun x hx=> ?_,fun x hx h=> ?_,?_⟩
 ·rw[List.mem_replicate]at hx;omega
 ·rw[List.mem_replicate]at hx;omega
 ·have:(List.replicate (wide*deep).toNat (0:Int)).filter (fun x=>decide (0<x))= []:=by
   rw[List.filter_eq_nil_iff];intro x hx;rw[List.mem_replicate]at hx;simp[hx.2]
  rw[this];exact List.nodup_nil
theorem houseNew_eq (wide deep f s p c:Int):houseNew wide deep f s p c=(if hallOk (emptyHall wide deep).1 (emptyHall wide deep).2.1 (emptyHall wide deep).2.2&&tariffOk f s p c then⟨(emptyHall wide deep).1,(emptyHall wide deep).2.1,(emptyHall wide deep).2.2,f,s,p,c,0,0,[]⟩else houseZero):=by
 unfold houseNew
 by_cases h:2≤wide∧wide≤4∧2≤deep∧deep≤3
 ·have h1:emptyHall wide deep=(wide,deep,List.replicate (wide*deep).toNat 0):=by unfold emptyHall;rw[if_pos h]
  rw[h1,hallOk_new h,Bool.true_and]
  cases tariffOk f s p c<;>simp[h]
 ·have h1:emptyHall wide deep=(0,0,[]):=by unfold emptyHall;rw[if_neg h]
  rw[h1]
  have h2:hallOk 0 0 []=false:=by simp[hallOk,shapeOk]
  rw[h2,Bool.false_and]
  have h3: ¬(tariffOk f s p c=true∧2≤wide∧wide≤4∧2≤deep∧deep≤3):=fun k=>h k.2
  rw[if_neg h3];rfl
theorem specHn (wide deep free step price capp:Int)(w:World):Calls Tryz.prog 114 #[.int .i64 wide,.int .i64 deep,tariffV free step price capp] w (RetHouse (houseNew wide deep free step price capp) w):=by
 have HE:=fun(w':World) (hx:Ext w w')=>specHe wide deep w'
 have HV:=fun(w':World) p c (hS:Sl w' p (emptyHall wide deep).2.2.length c 1 (ivs (emptyHall wide deep).2.2))=>specHv (emptyHall wide deep).1 (emptyHall wide deep).2.1 p _ c (emptyHall wide deep).2.2 w' hS
 have HT:=fun(w':World)=>specTv free step price capp w'
 rw[houseNew_eq]
 cases h1:hallOk (emptyHall wide deep).1 (emptyHall wide deep).2.1 (emptyHall wide deep).2.2 with
 |false=>rw[h1]at HV;cases h2:tariffOk free step price capp<;>(rw[h2]at HT;exact specHn_no1 wide deep free step price capp _ _ _ w _ HE HV HT)
 |true=>
  rw[h1]at HV
  cases h2:tariffOk free step price capp with
  |false=>rw[h2]at HT;exact specHn_no2 wide deep free step price capp _ _ _ w true HE HV HT
  |true=>rw[h2]at HT;exact specHn_yes wide deep free step price capp _ _ _ w true HE HV HT
end Go.Proofs.YteejdnmmpmcmeaaGreatDoor

namespace Go.Proofs.YteejdnmmpmcmeaaGreatDoor
open Go.RowKit
set_option linter.unusedVariables false
set_option linter.unusedSimpArgs false
def Good (h:HouseD):Prop:=houseOk h=true∨h=houseZero
theorem Good.small {h:HouseD}(hg:Good h):h.cells.length≤12∧h.vs.length≤12:=by
 rcases hg with hg|rfl
 ·have:=house_small hg;omega
 ·simp[houseZero]
theorem houseNew_good (a b f s p c:Int):Good (houseNew a b f s p c):=by
 unfold houseNew
 split
 ·rename_i hc
  left
  have hk:=hallOk_new hc.2
  refine(house_iff _).2 ⟨hk,hc.1,by simp,?_,by simp⟩
  have e:posOfL (List.replicate (a*b).toNat (0:Int))= []:=by
   unfold posOfL
   rw[List.filter_eq_nil_iff]
   intro x hx
   rw[(List.mem_replicate.1 hx).2];simp
  unfold carsOf
  rw[e];rfl
 ·exact .inr rfl
def RetGood (w:World)(e:Ending)(w':World):Prop:=
 ∃(h:HouseD) (p:Option Addr) (cap:Nat) (q:Option Addr) (c2:Nat) (nn:Int) (ok:Bool),e= .returned (.tuple #[houseV h p h.cells.length cap q h.vs.length c2,.int .i64 nn,.bool ok])∧Good h∧
  w'.ownsRow w.heap.size TI 1 (.slice p h.cells.length cap) h.cells.length (ivs h.cells)∧w'.ownsRow w.heap.size TV 4 (.slice q h.vs.length c2) h.vs.length (h.vs.flatMap visitCells)∧Ext w w'
theorem houseDo_good (h:HouseD)(hg:Good h)(k a b:Int)(p:Option Addr)(n cap:Nat)(q:Option Addr)(m c2:Nat)(w:World)(hi:IsHouse w h p n cap q m c2):
  Calls Tryz.prog 116 #[houseV h p n cap q m c2,deedV k a b] w (RetGood w):=by
 cases hok:houseOk h with
 |true=>
  refine(specHouseDo h k a b p n cap q m c2 w hi hok).mono ?_
  intro e w' hr
  cases hd:houseDo h k a b with
  |none=>
   rw[hd]at hr
   obtain⟨p',cap',q',c2',rfl,o1,o2,hx⟩:=hr
   exact⟨h,p',cap',q',c2',_,_,rfl,hg,o1,o2,hx⟩
  |some r=>
   obtain⟨h',x⟩:=r
   rw[hd]at hr
   obtain⟨p',cap',q',c2',rfl,o1,o2,hx⟩:=hr
   exact⟨h',p',cap',q',c2',_,_,rfl,.inl (houseDo_ok hok hd).1,o1,o2,hx⟩
 |false=>
  refine(specHouseDo_bad h k a b p n cap q m c2 w hi hok).mono ?_
  rintro e w' ⟨rfl,hx⟩
  exact⟨houseZero,none,0,none,0,_,_,rfl,.inr rfl,World.ownsRow_nil _ _ _ _,World.ownsRow_nil _ _ _ _,hx⟩
theorem l20HouseDeed_any (R k:Nat)(h:HouseD)(p:Option Addr)(cap:Nat)(q:Option Addr)(c2:Nat)(w:World)(hr:Rand w R k)(hk:k≤1099511600000)(hs:h.cells.length≤100∧h.vs.length≤1000)
  (hi:IsHouse w h p h.cells.length cap q h.vs.length c2)(hp:0<h.cells.length→ ∀b off,p=some ⟨b,off,none⟩→b≠R)(hq:0<h.vs.length→ ∀b off,q=some ⟨b,off,none⟩→b≠R):
  Calls Tryz.prog 117 #[.pointer (some ⟨R,0,none⟩),houseV h p h.cells.length cap q h.vs.length c2] w (RandHD R k w):=by
 refine l20HouseDeed_o R k h.wide h.deep h.free h.step h.price h.capp h.clock h.bank p _ cap q _ c2 h.vs (slidesAll h.wide h.deep h.cells) w hr hk hs.2 _ (Lib.hid rfl) ?_ (Lib.hid rfl) (Lib.hid hi.vs) (Lib.hid fun b off h0 e=>hq h0 b off e) (Lib.hid fun w' hx=> ?_)
 ·have h1:=slidesAll_len h.wide h.deep h.cells
  have h2:=Nat.mul_le_mul hs.1 hs.1
  omega
 ·exact slidesAll_w h.wide h.deep p _ cap h.cells w' (hx.sl (b0:=0) hi.cells hp) (by omega)
def RandHouse (R k:Nat)(w:World)(e:Ending)(w':World):Prop:=
 ∃(h:HouseD) (p:Option Addr) (cap:Nat) (q:Option Addr) (c2:Nat),e= .returned (houseV h p h.cells.length cap q h.vs.length c2)∧h.cells.length≤13∧h.vs.length≤13∧
  w'.ownsRow w.heap.size TI 1 (.slice p h.cells.length cap) h.cells.length (ivs h.cells)∧w'.ownsRow w.heap.size TV 4 (.slice q h.vs.length c2) h.vs.length (h.vs.flatMap visitCells)∧Rand w' R (k+20000)∧ExtR R w w'
theorem memR_isHouse {R:Nat}{w0 w:World}{L:List Item}{i j B1 B2 cap c2:Nat}{h:HouseD}{p q:Option Addr}(m:MemR R w0 w L)(hi:L[i]? =some (ownI B1 TI 1 p h.cells.length cap (ivs h.cells))) (hj:L[j]? =some (ownI B2 TV 4 q h.vs.length c2 (h.vs.flatMap visitCells))):IsHouse w h p h.cells.length cap q h.vs.length c2:=⟨m.sl hi,m.sl hj⟩
theorem memR_far {R:Nat}{w0 w:World}{L:List Item}{i B n c sz:Nat}{e:TypeId}{p:Option Addr}{xs:List Value}(m:MemR R w0 w L)(hi:L[i]? =some (ownI B e sz p n c xs)):0<n→ ∀b off,p=some ⟨b,off,none⟩→b≠R:=by
 intro h0 b off he
 obtain⟨g,hg,h1,_⟩:=m.some hi h0
 rw[hg]at he
 injection he with he;injection he with he
 have:=m.old
 omega
end Go.Proofs.YteejdnmmpmcmeaaGreatDoor

