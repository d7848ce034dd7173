/-
  A law's walk or frame (@packed).
-/
import Derived.Test.YtndcnflchkfaeaaDoorK22
import Derived.Test.YtndcnflchkfaeaaDoorK28
import Derived.Test.YtndcnflchkfaeaaDoorK32
import Derived.Test.YtndcnflchkfaeaaDoorK33
import Derived.Test.YtndcnflchkfaeaaDoorK34
namespace Go.Proofs.YtndcnflchkfaeaaDoor
open Go.RowKit
set_option linter.unusedVariables false
set_option linter.unusedSimpArgs false
def keptF (K:List Int)(b:Visit4):Bool:=K.contains b.1
theorem kept_yes {K:List Int}{W:List Visit4}{k:Nat}{b:Visit4}(hb:W[k]? =some b) (h:keptF K b=true):(W.take (k+1)).filter (keptF K)=(W.take k).filter (keptF K)++ [b]:=by
 rw[List.take_add_one,hb,List.filter_append];simp[h]
theorem kept_no {K:List Int}{W:List Visit4}{k:Nat}{b:Visit4}(hb:W[k]? =some b) (h:keptF K b=false):(W.take (k+1)).filter (keptF K)=(W.take k).filter (keptF K):=by
 rw[List.take_add_one,hb,List.filter_append];simp[h]
set_option maxRecDepth 100000 in
set_option maxHeartbeats 8000000 in
theorem fnBooksKeep_big (p:Option Addr)(n cap:Nat)(w:World)(h:(1048576:Int)<n):
  Calls Tryd.prog 6 #[.slice p n cap] w fun e w'=>e= .returned (.bool true)∧Ext w w':=by
 go_enter Tryd.func6,Tryd.ntmps6
 go_wp2
 go_ret
 exact⟨rfl,by(repeat' (first|exact Ext.refl _|(with_reducible assumption)|(with_reducible refine Ext.alloc ?_ _)|(with_reducible refine Ext.setCell ?_ (by first|exact Nat.le_refl _|(dsimp only;omega)|(simp;done)|(simp;omega)) _)|(with_reducible refine Ext.drew ?_)|(with_reducible refine Ext.drewN ?_ _)|(refine Ext.trans ?_ (by with_reducible assumption))))⟩
set_option maxRecDepth 100000 in
set_option maxHeartbeats 8000000 in
theorem fnBooksKeep_o (p0:Option Addr)(n0 cap0:Nat)(w:World)(hn0:(n0:Int)≤1048576)(HE:Hid (Env w))
  (HD:Calls Tryd.prog 25 #[.slice p0 n0 cap0] w (DrewBooks w)):
  Calls Tryd.prog 6 #[.slice p0 n0 cap0] w fun e w'=>e= .returned (.bool true)∧Ext w w':=by
 unfold DrewBooks at HD
 have HD:=Lib.hid HD
 have hd0:decide ((1048576:Int)<(n0:Int))=false:=by simp;omega
 have hd1:decide (1048576<n0)=false:=by simp;omega
 go_enter Tryd.func6,Tryd.ntmps6
 go_wp2_with fail
 refine HD.out.mono ?_
 rintro e w1 ⟨bs,q,c,P,rfl,hB,ho,hx1⟩
 have hX1:=Lib.hid hx1
 clear HD hx1 hd0 hd1
 obtain⟨n,hn⟩: ∃x,bs.length=x:=⟨_,rfl⟩
 rw[hn]at hB ho⊢
 have HS:=Lib.hid (Sl.own ho)
 clear ho
 obtain⟨K,hK⟩: ∃x,booksKeep bs P=x:=⟨_,rfl⟩
 obtain⟨g,hg⟩: ∃x,K.length=x:=⟨_,rfl⟩
 have hcases:(booksOk bs=false∧g=0)∨(booksOk bs=true∧P<0∧g=0)∨(booksOk bs=true∧0≤P∧(bs.filter (keptF K)).length=g∧booksMost (bs.filter (keptF K))≤P∧K.Pairwise (·< ·)):=by
  cases ho:booksOk bs with
  |false=>exact .inl ⟨rfl,by rw[←hg,←hK];unfold booksKeep;rw[if_neg (by simp[ho])];rfl⟩
  |true=>
   by_cases hP:0≤P
   ·have h:=keep_own ho hP
    rw[hK,hg]at h
    exact .inr (.inr ⟨rfl,hP,h⟩)
   ·exact .inr (.inl ⟨rfl,by omega,by rw[←hg,←hK];unfold booksKeep;rw[if_neg (by simp[hP])];rfl⟩)
 have hg7:g≤7:=by rw[←hg,←hK];exact booksKeep_len bs P
 have HAi:=Lib.hid fun(w':World) (hx:Ext w1 w')=>implBk q n c P bs w' (HS.out.ext hx)
 have HAs:=Lib.hid fun(w':World) (hx:Ext w1 w')=>specBk q n c P bs w' (HS.out.ext hx)
 have HV:=Lib.hid fun(w':World) (hx:Ext w1 w')=>specBsv q n c bs w' (HS.out.ext hx)
 have HP:=Lib.hid fun(w':World) (hx:Ext w1 w') (hP:0≤P) (ho:booksOk bs=true)=>implPick q n c P bs w' hP ho (HS.out.ext hx)
 rw[hK,hg]at HP
 rw[hK]at HAi HAs
 unfold RetInts at HAi HAs
 rw[hg]at HAi HAs
 obtain⟨V,hV⟩: ∃x,booksOk bs=x:=⟨_,rfl⟩
 rw[hV]at HV hcases
 have HO:=Lib.hid hV
 have hl:=Lib.hid hn
 have hlg:=Lib.hid hg
 clear hK hn hg hV
 go_wp2_with fail
 refine(HAi.out _ (Mem.start w1).ext).mono ?_
 rintro e w2 ⟨q5,c5,rfl,ho2,hx2⟩
 have M2:=Lib.hid ((Mem.start w1).call hx2 ho2)
 clear hx2 ho2
 go_wp2_with fail
 refine(HAs.out _ (M2.out).ext).mono ?_
 rintro e w3 ⟨q6,c6,rfl,ho3,hx3⟩
 have M3:=Lib.hid ((M2.out).call hx3 ho3)
 clear M2
 clear hx3 ho3
 go_wp2_with fail
 refine(sameInts_any q5 q6 g c5 c6 K _ ((M3.out).sl (i:=1) rfl) ((M3.out).sl (i:=0) rfl)).mono ?_
 rintro e w4 ⟨rfl,hx4⟩
 have M4:=Lib.hid ((M3.out).adv hx4)
 clear M3
 clear hx4
 have M5:=Lib.hid (show Mem w1 w4 [ownI w1.heap.size TI 1 (q5) (g) (c5) (ivs K)]from((M4.out).pick [1] (by decide) rfl))
 clear M4
 go_wp2_with fail
 refine(HV.out _ (M5.out).ext).mono ?_
 rintro e w6 ⟨rfl,hx6⟩
 have M6:=Lib.hid ((M5.out).adv hx6)
 clear M5
 clear hx6
 clear HAi HAs HV
 rcases hcases with⟨rfl,rfl⟩|⟨rfl,hP,rfl⟩|⟨rfl,hP,h1,h2,h3⟩
 ·skip
  go_wp2_with fail
  refine(alive_any _ (HE.out.ext (hX1.out.trans (M6.out).ext))).mono ?_
  rintro e wz ⟨rfl,hxz⟩
  have XZ:Ext w wz:=hX1.out.trans ((M6.out).ext.trans hxz)
  go_wp2
  go_ret
  exact⟨rfl,XZ⟩
 ·skip
  have dP:decide (P<0)=true:=by simp[hP]
  go_wp2_with fail
  refine(alive_any _ (HE.out.ext (hX1.out.trans (M6.out).ext))).mono ?_
  rintro e wz ⟨rfl,hxz⟩
  have XZ:Ext w wz:=hX1.out.trans ((M6.out).ext.trans hxz)
  go_wp2
  go_ret
  exact⟨rfl,XZ⟩
 ·skip
  have dP:decide (P<0)=false:=by simp;omega
  have HL:=Lib.hid h1
  have HM:=Lib.hid h2
  have HU:=Lib.hid h3
  clear h1 h2 h3
  have MS:=Lib.hid (show Mem w1 (w6.alloc (.cells #[] TBk)) [ownI w1.heap.size TBk 4 ((some ⟨w6.heap.size,0,none⟩)) (0) (0) (((bs.take 0).filter (keptF K)).flatMap visitCells),ownI w1.heap.size TI 1 (q5) (g) (c5) (ivs K)]from((M6.out).made0 TBk 4 (w6.heap.size) (by simp)))
  go_wp2
  go_loopw [6,7] (fun o i wr=> ∃k gr r cr:Nat,o= .slice (some ⟨gr,0,none⟩) r cr∧i= .int .i64 (k:Int)∧k≤n∧r=((bs.take k).filter (keptF K)).length∧r≤k∧Mem w1 wr [ownI w1.heap.size TBk 4 ((some ⟨gr,0,none⟩)) (r) (cr) (((bs.take k).filter (keptF K)).flatMap visitCells),ownI w1.heap.size TI 1 (q5) (g) (c5) (ivs K)]) (fun _ i _=>n-(intOf i).toNat)
  case atStart=>exact⟨0,_,0,0,rfl,rfl,Nat.zero_le _,rfl,Nat.le_refl _,MS.out⟩
  case round=>
   clear MS M6
   obtain⟨k,gr,r,cr,rfl,rfl,hk,hr,hrk,hM⟩:=hrel
   have M5:=Lib.hid hM
   have HR:=Lib.hid hr
   clear hM hr
   by_cases hlt:k<n
   ·skip
    obtain⟨bb,off,x0,x1,x2,x3,rfl,hv,hb,y0,y1,y2,y3⟩:=visit_at (HS.out.ext M5.out.ext) hlt
    have HVk:=Lib.hid hv
    clear hv
    have HI:=Lib.hid fun(w':World) (hx:Ext wr w')=>hasInt_any q5 g c5 K x0 w' ((M5.out.sl (i:=1) rfl).ext hx)
    obtain⟨t,ht⟩: ∃t,K.contains x0=t:=⟨_,rfl⟩
    rw[ht]at HI
    have i1:(0:Int)≤(k:Int):=by omega
    have i2:(k:Int)<(n:Int):=by omega
    have i3: ¬(n≤k):=by omega
    cases t with
    |false=>
     have hfin:Hid ((bs.take (k+1)).filter (keptF K)=(bs.take k).filter (keptF K)):=kept_no HVk.out ht
     clear ht
     go_wp2_with fail
     refine(HI.out _ (by(repeat' (first|exact Ext.refl _|(with_reducible assumption)|(with_reducible refine Ext.alloc ?_ _)|(with_reducible refine Ext.setCell ?_ (by first|exact Nat.le_refl _|(dsimp only;omega)|(simp;done)|(simp;omega)) _)|(with_reducible refine Ext.drew ?_)|(with_reducible refine Ext.drewN ?_ _)|(refine Ext.trans ?_ (by with_reducible assumption)))))).mono ?_
     rintro e w' ⟨rfl,rfl⟩
     go_wp2
     go_roundw
     case rel=>exact⟨k+1,gr,r,cr,rfl,by go_num,by omega,by rw[hfin.out];exact HR.out,by omega,by rw[hfin.out];exact M5.out⟩
     case measure=>simp[intOf];omega
    |true=>
     have hfin:Hid ((bs.take (k+1)).filter (keptF K)=(bs.take k).filter (keptF K)++ [(x0,x1,x2,x3)]):=kept_yes HVk.out ht
     clear ht
     go_wp2_with fail
     refine(HI.out _ (by(repeat' (first|exact Ext.refl _|(with_reducible assumption)|(with_reducible refine Ext.alloc ?_ _)|(with_reducible refine Ext.setCell ?_ (by first|exact Nat.le_refl _|(dsimp only;omega)|(simp;done)|(simp;omega)) _)|(with_reducible refine Ext.drew ?_)|(with_reducible refine Ext.drewN ?_ _)|(refine Ext.trans ?_ (by with_reducible assumption)))))).mono ?_
     rintro e w' ⟨rfl,rfl⟩
     go_wp2_with (at_builtin;refine wpList_appM elBk rfl _ _ rfl (M5.out.adv ((Ext.refl _).alloc (.cells #[.int .i64 x0,.int .i64 x1,.int .i64 x2,.int .i64 x3] TBk))) 0 rfl rfl (visitCells (x0,x1,x2,x3)) rfl (sl_lit _ _ _ 1 4 _ (by first|rfl|simp) (by first|rfl|simp) (by simp[maxLen])) (book_one _) (by omega) ?_;intro q7 c7 w7 M7X;obtain⟨g7,hg7,_,_⟩:=M7X.some (i:=0) rfl (by omega);subst hg7;have M7:=Lib.hid (show Mem w1 w7 [ownI w1.heap.size TBk 4 ((some ⟨g7,0,none⟩)) ((r+1)) (c7) (((bs.take (k+1)).filter (keptF K)).flatMap visitCells),ownI w1.heap.size TI 1 (q5) (g) (c5) (ivs K)]from by rw[hfin.out,List.flatMap_append];simpa using M7X);clear M7X)
     go_roundw
     case rel=>exact⟨k+1,g7,r+1,c7,rfl,by go_num,by omega,by rw[hfin.out];simp[HR.out],by omega,M7.out⟩
     case measure=>simp[intOf];omega
   ·skip
    have hkn:k=n:=by omega
    subst hkn
    clear hlt hk
    have hW2:(bs.take k).filter (keptF K)=bs.filter (keptF K):=by rw[List.take_of_length_le (by rw[hl.out];exact Nat.le_refl _)]
    have hrm:r=g:=by rw[HR.out,hW2];exact HL.out
    subst hrm
    obtain⟨Mx,hMx⟩: ∃x,booksMost (bs.filter (keptF K))=x:=⟨_,rfl⟩
    have HBM:=Lib.hid fun(w':World) (h:Sl w' (some ⟨gr,0,none⟩) r cr 4 ((bs.filter (keptF K)).flatMap visitCells))=>implBm (some ⟨gr,0,none⟩) r cr (bs.filter (keptF K)) w' h
    have hm:=HM.out
    rw[hMx]at HBM hm
    have d1:decide (Mx≤P)=true:=by simp[hm]
    clear hm hMx
    have M6:=Lib.hid (show Mem w1 wr [ownI w1.heap.size TBk 4 ((some ⟨gr,0,none⟩)) (r) (cr) ((bs.filter (keptF K)).flatMap visitCells),ownI w1.heap.size TI 1 (q5) (r) (c5) (ivs K)]from by have h:=M5.out;rw[hW2]at h;exact h)
    clear M5 hW2 HR
    go_wp2_with fail
    refine(HBM.out _ (M6.out.sl (i:=0) rfl)).mono ?_
    rintro e w7 ⟨rfl,hx7⟩
    have M7:=Lib.hid ((M6.out).adv hx7)
    clear M6
    clear hx7
    go_wp2_with fail
    refine(HP.out _ M7.out.ext hP HO.out).mono ?_
    rintro e w8 ⟨rfl,hx8⟩
    have M8:=Lib.hid ((M7.out).adv hx8)
    clear M7
    clear hx8
    go_wp2_with fail
    refine(ascend_any q5 r c5 K _ (M8.out.sl (i:=1) rfl) HU.out).mono ?_
    rintro e w9 ⟨rfl,hx9⟩
    have M9:=Lib.hid ((M8.out).adv hx9)
    clear M8
    clear hx9
    have XZ:Ext w w9:=hX1.out.trans (M9.out).ext
    go_wp2
    go_ret
    exact⟨rfl,XZ⟩
theorem walk_FnBooksKeep (W:World)(v:Value)(u:Unit)(hc:Code W v)(hE:Env W):Calls Tryd.prog 6 #[v] W fun e w'=>e= .returned (.bool true)∧Ext W w':=by
 have hD:=drawBooksKeep v W hc
 obtain⟨p0,n,cap,bs,rfl,h,hb⟩:=hc
 by_cases hn:(n:Int)≤1048576
 ·exact fnBooksKeep_o p0 n cap W hn (Lib.hid hE) hD
 ·exact fnBooksKeep_big p0 n cap W (by omega)
end Go.Proofs.YtndcnflchkfaeaaDoor
