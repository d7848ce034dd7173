/-
  Texts of this proof, packed (@packed).
-/
import Derived.IntWalk
import Derived.Laws.BitsAllLaws
import Derived.Test.YtndcnflchkfaeaaDoorK11
import Derived.Test.YtndcnflchkfaeaaDoorK33
namespace Go.Proofs.YtndcnflchkfaeaaDoor
open Go.RowKit Go
set_option linter.unusedVariables false
set_option linter.unusedSimpArgs false
theorem wrap_nat63 (x:Nat)(h:x<9223372036854775808):IntKind.i64.wrap (x:Int)=(x:Int):=IntWalk.i64_in _ (by omega)
theorem i64_and_nat (a b:Nat)(ha:a<9223372036854775808)(hb:b<9223372036854775808):bits .and .i64 (a:Int) (b:Int)=((a&&& b:Nat):Int):=by
 have hx:a&&& b<2 ^ 63:=Nat.and_lt_two_pow _ (by omega)
 show IntKind.i64.wrap ((BitVec.ofInt 64 (a:Int)&&& BitVec.ofInt 64 (b:Int)).toNat:Int)=_
 rw[BitVec.toNat_and,ofInt_u64 a (by omega),ofInt_u64 b (by omega)]
 exact wrap_nat63 _ (by omega)
theorem and_pow (s k:Nat):s&&& 2 ^ k=if s.testBit k then 2 ^ k else 0:=by
 apply Nat.eq_of_testBit_eq
 intro j
 rw[Nat.testBit_and,Nat.testBit_two_pow]
 by_cases h:k=j
 ·subst h
  cases hb:s.testBit k<;>simp[Nat.testBit_two_pow]
 ·cases hb:s.testBit k<;>simp[Nat.testBit_two_pow,h]
theorem pow_cast (k:Nat):((2:Int) ^ k)=((2 ^ k:Nat):Int):=by simp
theorem wrap_pow (k:Nat)(h:k≤62):IntKind.i64.wrap ((2:Int) ^ k)=((2 ^ k:Nat):Int):=by
 rw[pow_cast]
 have:2 ^ k≤2 ^ 62:=Nat.pow_le_pow_right (n:=2) (by omega) h
 exact wrap_nat63 _ (by omega)
theorem bit_ask (s k:Nat)(hs:s<9223372036854775808)(hk:k≤62):(bits .and .i64 (s:Int) (IntKind.i64.wrap ((2:Int) ^ k))!=0)=s.testBit k:=by
 have hp:2 ^ k≤2 ^ 62:=Nat.pow_le_pow_right (n:=2) (by omega) hk
 rw[wrap_pow k hk,i64_and_nat s _ hs (by omega),and_pow]
 have h0:0<2 ^ k:=Nat.two_pow_pos k
 cases s.testBit k
 ·simp
 ·have:((2 ^ k:Nat):Int)≠0:=by omega
  simpa using this
end Go.Proofs.YtndcnflchkfaeaaDoor

namespace Go.Proofs.YtndcnflchkfaeaaDoor
open Go.RowKit
set_option linter.unusedVariables false
set_option linter.unusedSimpArgs false
set_option maxRecDepth 100000 in
set_option maxHeartbeats 8000000 in
theorem implPick (q:Option Addr)(m c2:Nat)(P:Int)(bs:List Visit4)(w:World)(hP:0≤P)(ho:booksOk bs=true)(hS:Sl w q m c2 4 (bs.flatMap visitCells)):
  Calls Tryd.prog 29 #[.slice q m c2,.int .i64 P] w fun e w'=>e= .returned (.int .i64 ((booksKeep bs P).length:Nat))∧Ext w w':=by
 have hl:bs.length=m:=by
  have:=hS.len;rw[flat_len visitCells 4 (fun _=>rfl)]at this;omega
 have hm7:m≤7:=by rw[←hl];exact((booksOk_iff _).1 ho).1
 have HV:=Lib.hid fun(w':World) (hx:Ext w w')=>implBsv q m c2 bs w' (hS.ext hx)
 rw[ho]at HV
 have HS:=Lib.hid hS
 have HO:=Lib.hid ho
 have HL:=Lib.hid hl
 clear hS ho hl
 obtain⟨N,hN⟩: ∃N:Nat,N=2 ^ m:=⟨_,rfl⟩
 have hN8:N≤128:=by rw[hN];exact Nat.pow_le_pow_right (n:=2) (by omega) hm7
 have hw:IntKind.i64.wrap ((2:Int) ^ m)=(N:Int):=by
  have e:((2:Int) ^ m)=(N:Int):=by rw[hN];simp
  rw[e];exact IntWalk.i64_in _ (by omega)
 have HN:=Lib.hid hN
 clear hN
 have dP:decide (P<0)=false:=by simp;omega
 go_enter Tryd.func29,Tryd.ntmps29
 go_wp2_with fail
 refine(HV.out _ (by(repeat' (first|exact Ext.refl _|(with_reducible assumption)|(with_reducible refine Ext.alloc ?_ _)|(with_reducible refine Ext.setCell ?_ (by first|exact Nat.le_refl _|(dsimp only;omega)|(simp;done)|(simp;omega)) _)|(with_reducible refine Ext.drew ?_)|(with_reducible refine Ext.drewN ?_ _)|(refine Ext.trans ?_ (by with_reducible assumption)))))).mono ?_
 rintro e w1 ⟨rfl,hx1⟩
 go_wp2
 clear hw
 go_loopw [5,20] (fun mo st wr=> ∃s most:Nat,mo= .int .i64 (most:Int)∧st= .int .i64 (s:Int)∧s≤N∧PkInv bs P s most∧Ext w wr) (fun _ st _=>N-(intOf st).toNat)
 case atStart=>exact⟨0,0,rfl,rfl,Nat.zero_le _,PkInv.start _ _,by(repeat' (first|exact Ext.refl _|(with_reducible assumption)|(with_reducible refine Ext.alloc ?_ _)|(with_reducible refine Ext.setCell ?_ (by first|exact Nat.le_refl _|(dsimp only;omega)|(simp;done)|(simp;omega)) _)|(with_reducible refine Ext.drew ?_)|(with_reducible refine Ext.drewN ?_ _)|(refine Ext.trans ?_ (by with_reducible assumption))))⟩
 case round=>
  clear hx1 HV
  obtain⟨s,most,rfl,rfl,hs,hI,hE⟩:=hrel
  have HI:=Lib.hid hI
  have HE:=Lib.hid hE
  clear hI hE
  by_cases hlt:s<N
  ·have d0:decide ((s:Int)<(N:Int))=true:=by simp;omega
   go_wp2
   go_loopw [7,25] (fun so i wr'=> ∃(k:Nat) (q7:Option Addr) (c7:Nat),so= .slice q7 (setL (bs.take k) s).length c7∧i= .int .i64 (k:Int)∧k≤m∧Mem wr wr' [ownI wr.heap.size TBk 4 q7 (setL (bs.take k) s).length c7 ((setL (bs.take k) s).flatMap visitCells)]) (fun _ i _=>m-(intOf i).toNat)
   case atStart=>exact⟨0,none,0,rfl,rfl,Nat.zero_le _,((Mem.start wr).call (Ext.refl _) (World.ownsRow_nil _ _ TBk 4))⟩
   case round=>
    obtain⟨k,q7,c7,rfl,rfl,hk,hM⟩:=hrel
    by_cases hkm:k<m
    ·obtain⟨b,off,x0,x1,x2,x3,rfl,hv,hb,g0,g1,g2,g3⟩:=visit_at (HS.out.ext (HE.out.trans hM.ext)) hkm
     have i1:(0:Int)≤(k:Int):=by omega
     have i2:(k:Int)<(m:Int):=by omega
     have d1:decide ((k:Int)<(m:Int))=true:=by simp;omega
     have M5:=Lib.hid hM
     have hlen:(setL (bs.take k) s).length≤k:=Nat.le_trans (setL_sub _ _).length_le (by simp;omega)
     obtain⟨K2,hK2⟩: ∃x:Nat,x=2 ^ k:=⟨_,rfl⟩
     have hw2:IntKind.i64.wrap ((2:Int) ^ k)=(K2:Int):=by rw[hK2];exact wrap_pow k (by omega)
     have hb0:=bit_ask s k (by omega) (by omega)
     rw[hw2]at hb0
     clear hK2
     rw[Nat.testBit_eq_decide_div_mod_eq]at hb0
     by_cases hbit:s/2 ^ k%2=1
     ·have hst:Hid (setL (bs.take (k+1)) s=setL (bs.take k) s++ [(x0,x1,x2,x3)]):=by show _=_;rw[setL_take hv,if_pos hbit]
      rw[decide_eq_true hbit]at hb0
      obtain⟨r,hr⟩: ∃r,r=(setL (bs.take k) s).length:=⟨_,rfl⟩
      rw[←hr]at M5 hlen⊢
      have HR:=Lib.hid hr
      clear hv hM hbit hr
      go_wp2_with (at_builtin;refine wpList_appM elBk rfl _ _ rfl ((M5.out.adv ((Ext.refl _).alloc (.cells #[.int .i64 x0,.int .i64 x1,.int .i64 x2,.int .i64 x3] TBk))).adv ((Ext.refl _).alloc (.cells #[.int .i64 x0,.int .i64 x1,.int .i64 x2,.int .i64 x3] TBk))) 0 rfl rfl (visitCells (x0,x1,x2,x3)) rfl (sl_lit _ _ _ 1 4 _ (by first|rfl|simp) (by first|rfl|simp) (by simp[maxLen])) (book_one _) (by omega) ?_;intro q9 c9 w9 M9X;have M9:=Lib.hid M9X;clear M9X)
      go_roundw
      case rel=>exact⟨k+1,q9,c9,by rw[hst.out,List.length_append,←HR.out];rfl,by go_num,by omega,by rw[hst.out,List.length_append,List.flatMap_append,←HR.out];simpa using M9.out⟩
      case measure=>simp[intOf];omega
     ·have hst:Hid (setL (bs.take (k+1)) s=setL (bs.take k) s):=by show _=_;rw[setL_take hv,if_neg hbit]
      rw[decide_eq_false hbit]at hb0
      clear hv hM hbit
      go_wp2
      go_roundw
      case rel=>exact⟨k+1,q7,c7,by rw[hst.out],by go_num,by omega,by rw[hst.out];exact M5.out.adv (by(repeat' (first|exact Ext.refl _|(with_reducible assumption)|(with_reducible refine Ext.alloc ?_ _)|(with_reducible refine Ext.setCell ?_ (by first|exact Nat.le_refl _|(dsimp only;omega)|(simp;done)|(simp;omega)) _)|(with_reducible refine Ext.drew ?_)|(with_reducible refine Ext.drewN ?_ _)|(refine Ext.trans ?_ (by with_reducible assumption)))))⟩
      case measure=>simp[intOf];omega
    ·have hkm2:k=m:=by omega
     subst hkm2
     have d1:decide ((k:Int)<(k:Int))=false:=by simp
     have hall:setL (bs.take k) s=setL bs s:=by rw[List.take_of_length_le (by rw[HL.out];exact Nat.le_refl _)]
     rw[hall]at hM⊢
     obtain⟨r,hr⟩: ∃r,r=(setL bs s).length:=⟨_,rfl⟩
     have hr7:r≤7:=by rw[hr];exact Nat.le_trans (setL_sub _ _).length_le (by rw[HL.out];omega)
     obtain⟨Mx,hMx⟩: ∃x,booksMost (setL bs s)=x:=⟨_,rfl⟩
     rw[←hr]at hM⊢
     have HBM:=Lib.hid fun(w':World) (hx:Ext wr w')=>implBm q7 r c7 (setL bs s) w' ((hM.sl (i:=0) rfl).ext hx)
     rw[hMx]at HBM
     have HX:=Lib.hid (HE.out.trans hM.ext)
     have HR:=Lib.hid hr
     have HMX:=Lib.hid hMx
     clear hM hall hr hMx
     by_cases h1:most<r
     ·have d2:decide ((most:Int)<(r:Int))=true:=by simp;omega
      go_wp2_with fail
      refine(HBM.out _ (by(repeat' (first|exact Ext.refl _|(with_reducible assumption)|(with_reducible refine Ext.alloc ?_ _)|(with_reducible refine Ext.setCell ?_ (by first|exact Nat.le_refl _|(dsimp only;omega)|(simp;done)|(simp;omega)) _)|(with_reducible refine Ext.drew ?_)|(with_reducible refine Ext.drewN ?_ _)|(refine Ext.trans ?_ (by with_reducible assumption)))))).mono ?_
      rintro e wb ⟨rfl,hxb⟩
      have hE9:=HX.out.trans hxb
      by_cases h2:Mx≤P
      ·have d3:decide (Mx≤P)=true:=by simp[h2]
       have HG:=Lib.hid (HI.out.grow HO.out hP (by rw[←HR.out];exact h1) (by rw[HMX.out];exact h2))
       go_wp2
       go_roundw
       case rel=>exact⟨s+1,r,rfl,by go_num,by omega,by rw[HR.out];exact HG.out,hE9⟩
       case measure=>simp[intOf];omega
      ·have d3:decide (Mx≤P)=false:=by simp;omega
       have HG:=Lib.hid (HI.out.keep (by rw[HMX.out];exact fun h=>h2 h.2))
       clear h2
       go_wp2
       go_roundw
       case rel=>exact⟨s+1,most,rfl,by go_num,by omega,HG.out,hE9⟩
       case measure=>simp[intOf];omega
     ·have d2:decide ((most:Int)<(r:Int))=false:=by simp;omega
      have HG:=Lib.hid (HI.out.keep (by rw[←HR.out];exact fun h=>h1 h.1))
      go_wp2
      go_roundw
      case rel=>exact⟨s+1,most,rfl,by go_num,by omega,HG.out,HX.out⟩
      case measure=>simp[intOf];omega
  ·have d0:decide ((s:Int)<(N:Int))=false:=by simp;omega
   have hfin:Hid (most=(booksKeep bs P).length):=HI.out.done HO.out hP (by rw[HL.out,←HN.out];omega)
   go_wp2
   go_ret
   exact⟨by rw[←hfin.out];rfl,HE.out⟩
end Go.Proofs.YtndcnflchkfaeaaDoor

