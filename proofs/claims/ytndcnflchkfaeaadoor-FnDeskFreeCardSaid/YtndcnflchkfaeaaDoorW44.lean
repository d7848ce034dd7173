/-
  A law's walk or frame (@packed).
-/
import Derived.Test.YtndcnflchkfaeaaDoorK10
import Derived.Test.YtndcnflchkfaeaaDoorK22
import Derived.Test.YtndcnflchkfaeaaDoorK28
import Derived.Test.YtndcnflchkfaeaaDoorK32
namespace Go.Proofs.YtndcnflchkfaeaaDoor
open Go.RowKit
set_option linter.unusedVariables false
set_option linter.unusedSimpArgs false
theorem RetFree.is {P:Int}{T W:List Visit4}{G:List Int}{n m g:Nat}{w w':World}{e:Ending}(h:RetFree (⟨P,T,W⟩,G) w e w')(hn:T.length=n)(hm:W.length=m)(hg:G.length=g):
  ∃qa ca qb cb qc cc,e= .returned (.tuple #[.agg #[.int .i64 P,.slice qa n ca,.slice qb m cb],.slice qc g cc])∧Mem w w' [ownI w.heap.size TBk 4 qa n ca (T.flatMap visitCells),ownI w.heap.size TBk 4 qb m cb (W.flatMap visitCells),ownI w.heap.size TI 1 qc g cc (ivs G)]:=by
 obtain⟨qa,na,ca,qb,nb,cb,qc,nc,cc,he,h1,h2,h3,hM⟩:=h
 have h1:na=T.length:=h1
 have h2:nb=W.length:=h2
 have h3:nc=G.length:=h3
 subst h1 h2 h3 hn hm hg
 exact⟨qa,ca,qb,cb,qc,cc,he,hM⟩
def restF (G:List Int)(id:Int)(b:Visit4):Bool:= !G.contains b.1&& !(b.1==id)
theorem rest_yes {G:List Int}{id:Int}{W:List Visit4}{k:Nat}{b:Visit4}(hb:W[k]? =some b) (h:restF G id b=true):(W.take (k+1)).filter (restF G id)=(W.take k).filter (restF G id)++ [b]:=by
 rw[List.take_add_one,hb,List.filter_append];simp[h]
theorem rest_no {G:List Int}{id:Int}{W:List Visit4}{k:Nat}{b:Visit4}(hb:W[k]? =some b) (h:restF G id b=false):(W.take (k+1)).filter (restF G id)=(W.take k).filter (restF G id):=by
 rw[List.take_add_one,hb,List.filter_append];simp[h]
set_option maxRecDepth 100000 in
set_option maxHeartbeats 8000000 in
theorem fnDeskFree_big (p:Option Addr)(n cap:Nat)(w:World)(h:(1048576:Int)<n):
  Calls Tryd.prog 5 #[.slice p n cap] w fun e w'=>e= .returned (.bool true)∧Ext w w':=by
 go_enter Tryd.func5,Tryd.ntmps5
 go_wp2
 go_ret
 exact⟨rfl,by(repeat' (first|exact Ext.refl _|(with_reducible assumption)|(with_reducible refine Ext.alloc ?_ _)|(with_reducible refine Ext.setCell ?_ (by first|exact Nat.le_refl _|(dsimp only;omega)|(simp;done)|(simp;omega)) _)|(with_reducible refine Ext.drew ?_)|(with_reducible refine Ext.drewN ?_ _)|(refine Ext.trans ?_ (by with_reducible assumption))))⟩
set_option maxRecDepth 100000 in
set_option maxHeartbeats 8000000 in
theorem fnDeskFree_o (p0:Option Addr)(n0 cap0:Nat)(w:World)(hn0:(n0:Int)≤1048576)(HE:Hid (Env w))
  (HD:Calls Tryd.prog 19 #[.slice p0 n0 cap0] w (DrewDeskId w)):
  Calls Tryd.prog 5 #[.slice p0 n0 cap0] w fun e w'=>e= .returned (.bool true)∧Ext w w':=by
 unfold DrewDeskId at HD
 have HD:=Lib.hid HD
 have hd0:decide ((1048576:Int)<(n0:Int))=false:=by simp;omega
 have hd1:decide (1048576<n0)=false:=by simp;omega
 go_enter Tryd.func5,Tryd.ntmps5
 go_wp2_with fail
 refine HD.out.mono ?_
 rintro e w1 ⟨P,T,W,q,c,q2,c2,id,rfl,hT,hW,ho,hv,hx1⟩
 have hX1:=Lib.hid hx1
 clear HD hx1 hd0 hd1
 obtain⟨n,hn⟩: ∃x,T.length=x:=⟨_,rfl⟩
 obtain⟨m,hm⟩: ∃x,W.length=x:=⟨_,rfl⟩
 rw[hn]at hT ho⊢
 rw[hm]at hW hv⊢
 have HS:=Lib.hid (Sl.own ho)
 have HS2:=Lib.hid (Sl.own hv)
 clear ho hv
 have hcases:(deskValid ⟨P,T,W⟩=false∧deskFree ⟨P,T,W⟩ id=(⟨0,[],[]⟩,[]))∨(deskValid ⟨P,T,W⟩=true∧FreeOk ⟨P,T,W⟩ id (deskFree ⟨P,T,W⟩ id).1 (deskFree ⟨P,T,W⟩ id).2∧deskValid (deskFree ⟨P,T,W⟩ id).1=true):=by
  cases hv:deskValid ⟨P,T,W⟩with
  |false=>exact .inl ⟨rfl,free_bad _ _ hv⟩
  |true=>exact .inr ⟨rfl,free_all hv,free_ok hv⟩
 obtain⟨⟨⟨P',T',W'⟩,G⟩,hA⟩: ∃x,deskFree ⟨P,T,W⟩ id=x:=⟨_,rfl⟩
 obtain⟨n',hn'⟩: ∃x,T'.length=x:=⟨_,rfl⟩
 obtain⟨m',hm'⟩: ∃x,W'.length=x:=⟨_,rfl⟩
 obtain⟨g,hg⟩: ∃x,G.length=x:=⟨_,rfl⟩
 obtain⟨V,hV⟩: ∃x,deskValid ⟨P,T,W⟩=x:=⟨_,rfl⟩
 have HAi:=Lib.hid fun(w':World) (hx:Ext w1 w')=>(implFree P q n c q2 m c2 id T W w' (HS.out.ext hx) (HS2.out.ext hx)).mono (fun e w'' h=>by rw[hA]at h;exact h.is hn' hm' hg)
 have HAs:=Lib.hid fun(w':World) (hx:Ext w1 w')=>(specFree P q n c q2 m c2 id T W w' (HS.out.ext hx) (HS2.out.ext hx)).mono (fun e w'' h=>by rw[hA]at h;exact h.is hn' hm' hg)
 have HV:=Lib.hid fun(w':World) (hx:Ext w1 w')=>specDv P q n c q2 m c2 T W w' (HS.out.ext hx) (HS2.out.ext hx)
 rw[hA,hV]at hcases
 rw[hV]at HV
 have HC:=Lib.hid hcases
 have hl:=Lib.hid hn
 have hl2:=Lib.hid hm
 have hl':=Lib.hid hn'
 have hl2':=Lib.hid hm'
 have hlg:=Lib.hid hg
 clear hcases hA hn hm hn' hm' hg hV
 go_wp2_with fail
 refine(HAi.out _ (((Mem.start w1).blkNew TDk #[.int .i64 P,.slice q n c,.slice q2 m c2] (w1.heap.size) (by simp))).ext).mono ?_
 rintro e w2 ⟨q5,c5,q6,c6,q9,c9,rfl,hm2⟩
 have M2:=Lib.hid ((((Mem.start w1).blkNew TDk #[.int .i64 P,.slice q n c,.slice q2 m c2] (w1.heap.size) (by simp))).call3 hm2)
 have lt2_3:w1.heap.size<w2.heap.size:=(M2.out.lt (i:=3) rfl rfl).2
 clear hm2
 obtain⟨ca0,ca1,ca2⟩:=(M2.out.blk (i:=3) rfl).tri
 go_wp2_with fail
 clear ca0 ca1 ca2
 refine(HAs.out _ (((M2.out).blkNew TDk #[.int .i64 P',.slice q5 n' c5,.slice q6 m' c6] (w2.heap.size) (by simp))).ext).mono ?_
 rintro e w3 ⟨q7,c7,q8,c8,q10,c10,rfl,hm3⟩
 have M3:=Lib.hid ((((M2.out).blkNew TDk #[.int .i64 P',.slice q5 n' c5,.slice q6 m' c6] (w2.heap.size) (by simp))).call3 hm3)
 clear M2
 clear lt2_3
 have lt3_3:w2.heap.size<w3.heap.size:=(M3.out.lt (i:=3) rfl rfl).2
 have lt3_7:w1.heap.size<w3.heap.size:=(M3.out.lt (i:=7) rfl rfl).2
 clear hm3
 obtain⟨ca0,ca1,ca2⟩:=(M3.out.blk (i:=3) rfl).tri
 go_wp2_with fail
 clear ca0 ca1 ca2
 refine(sameDesk_any P' q5 n' c5 q6 m' c6 q7 c7 q8 c8 T' W' _ ((((M3.out).blkNew TDk #[.int .i64 P',.slice q7 n' c7,.slice q8 m' c8] (w3.heap.size) (by simp))).sl (i:=5) rfl) ((((M3.out).blkNew TDk #[.int .i64 P',.slice q7 n' c7,.slice q8 m' c8] (w3.heap.size) (by simp))).sl (i:=6) rfl) ((((M3.out).blkNew TDk #[.int .i64 P',.slice q7 n' c7,.slice q8 m' c8] (w3.heap.size) (by simp))).sl (i:=1) rfl) ((((M3.out).blkNew TDk #[.int .i64 P',.slice q7 n' c7,.slice q8 m' c8] (w3.heap.size) (by simp))).sl (i:=2) rfl)).mono ?_
 rintro e w4 ⟨rfl,hx4⟩
 have M4:=Lib.hid ((((M3.out).blkNew TDk #[.int .i64 P',.slice q7 n' c7,.slice q8 m' c8] (w3.heap.size) (by simp))).adv hx4)
 clear M3
 clear lt3_3 lt3_7
 have lt4_0:w3.heap.size<w4.heap.size:=(M4.out.lt (i:=0) rfl rfl).2
 have lt4_4:w2.heap.size<w4.heap.size:=(M4.out.lt (i:=4) rfl rfl).2
 have lt4_8:w1.heap.size<w4.heap.size:=(M4.out.lt (i:=8) rfl rfl).2
 clear hx4
 go_wp2_with fail
 refine(sameInts_any q9 q10 g c9 c10 G _ ((M4.out).sl (i:=7) rfl) ((M4.out).sl (i:=3) rfl)).mono ?_
 rintro e w5 ⟨rfl,hx5⟩
 have M5:=Lib.hid ((M4.out).adv hx5)
 clear M4
 clear lt4_0 lt4_4 lt4_8
 have lt5_0:w3.heap.size<w5.heap.size:=(M5.out.lt (i:=0) rfl rfl).2
 have lt5_4:w2.heap.size<w5.heap.size:=(M5.out.lt (i:=4) rfl rfl).2
 have lt5_8:w1.heap.size<w5.heap.size:=(M5.out.lt (i:=8) rfl rfl).2
 clear hx5
 clear HAi HAs
 have M6:=Lib.hid (show Mem w1 w5 [ownI w1.heap.size TBk 4 (q5) (n') (c5) (T'.flatMap visitCells),ownI w1.heap.size TBk 4 (q6) (m') (c6) (W'.flatMap visitCells),ownI w1.heap.size TI 1 (q9) (g) (c9) (ivs G),blkI w1.heap.size (w2.heap.size) TDk #[.int .i64 P',.slice q5 n' c5,.slice q6 m' c6],blkI w1.heap.size (w1.heap.size) TDk #[.int .i64 P,.slice q n c,.slice q2 m c2]]from((M5.out).pick [5,6,7,4,8] (by decide) rfl))
 clear M5 lt5_0 lt5_4 lt5_8
 have lt6_3:w2.heap.size<w5.heap.size:=(M6.out.lt (i:=3) rfl rfl).2
 have lt6_4:w1.heap.size<w5.heap.size:=(M6.out.lt (i:=4) rfl rfl).2
 have hXz:w1.heap.size<w2.heap.size:=by
  have h1:=(M6.out.lt (i:=3) rfl rfl).1
  have h2:=M6.out.ne (i:=3) (j:=4) (by omega) rfl rfl rfl rfl
  omega
 obtain⟨X,hX⟩: ∃a,a=w2.heap.size:=⟨_,rfl⟩
 rw[←hX]at M6 hXz lt6_3⊢
 clear hX
 obtain⟨ca0,ca1,ca2⟩:=(M6.out.blk (i:=4) rfl).tri
 go_wp2_with fail
 clear ca0 ca1 ca2
 refine(HV.out _ (M6.out).ext).mono ?_
 rintro e w7 ⟨rfl,hx7⟩
 have M7:=Lib.hid ((M6.out).adv hx7)
 clear M6
 clear lt6_3 lt6_4
 have lt7_3:X<w7.heap.size:=(M7.out.lt (i:=3) rfl rfl).2
 have lt7_4:w1.heap.size<w7.heap.size:=(M7.out.lt (i:=4) rfl rfl).2
 clear hx7
 rcases HC.out with⟨rfl,h1⟩|⟨rfl,h1,h2⟩
 ·skip
  have g0:G= []:=by injection h1
  have g1:g=0:=by have:=hlg.out;rw[g0]at this;simpa using this.symm
  subst g1
  clear h1 g0 HC
  go_wp2_with fail
  refine(alive_any _ (HE.out.ext (hX1.out.trans (M7.out).ext))).mono ?_
  rintro e wz ⟨rfl,hxz⟩
  have XZ:Ext w wz:=hX1.out.trans ((M7.out).ext.trans hxz)
  go_wp2
  go_ret
  exact⟨rfl,XZ⟩
 ·skip
  have HF:=Lib.hid h1
  have HK:=Lib.hid h2
  clear h1 h2 HC
  have MS:=Lib.hid (show Mem w1 (w7.alloc (.cells #[] TBk)) [ownI w1.heap.size TBk 4 ((some ⟨w7.heap.size,0,none⟩)) (0) (0) (((W.take 0).filter (restF G id)).flatMap visitCells),ownI w1.heap.size TBk 4 (q5) (n') (c5) (T'.flatMap visitCells),ownI w1.heap.size TBk 4 (q6) (m') (c6) (W'.flatMap visitCells),ownI w1.heap.size TI 1 (q9) (g) (c9) (ivs G),blkI w1.heap.size (X) TDk #[.int .i64 P',.slice q5 n' c5,.slice q6 m' c6],blkI w1.heap.size (w1.heap.size) TDk #[.int .i64 P,.slice q n c,.slice q2 m c2]]from((M7.out).made0 TBk 4 (w7.heap.size) (by simp)))
  obtain⟨ca0,ca1,ca2⟩:=(M7.out.blk (i:=3) rfl).tri
  go_wp2
  go_loopw [9,10] (fun o i wr=> ∃k gr r cr:Nat,o= .slice (some ⟨gr,0,none⟩) r cr∧i= .int .i64 (k:Int)∧k≤m∧r=((W.take k).filter (restF G id)).length∧r≤k∧Mem w1 wr [ownI w1.heap.size TBk 4 ((some ⟨gr,0,none⟩)) (r) (cr) (((W.take k).filter (restF G id)).flatMap visitCells),ownI w1.heap.size TBk 4 (q5) (n') (c5) (T'.flatMap visitCells),ownI w1.heap.size TBk 4 (q6) (m') (c6) (W'.flatMap visitCells),ownI w1.heap.size TI 1 (q9) (g) (c9) (ivs G),blkI w1.heap.size (X) TDk #[.int .i64 P',.slice q5 n' c5,.slice q6 m' c6],blkI w1.heap.size (w1.heap.size) TDk #[.int .i64 P,.slice q n c,.slice q2 m c2]]) (fun _ i _=>m-(intOf i).toNat)
  case atStart=>exact⟨0,_,0,0,rfl,rfl,Nat.zero_le _,rfl,Nat.le_refl _,MS.out⟩
  case round=>
   clear MS M7 lt7_3 lt7_4 ca0 ca1 ca2
   obtain⟨k,gr,r,cr,rfl,rfl,hk,hr,hrk,hM⟩:=hrel
   have M5:=Lib.hid hM
   have HR:=Lib.hid hr
   clear hM hr
   by_cases hlt:k<m
   ·skip
    have lt5_4:X<wr.heap.size:=(M5.out.lt (i:=4) rfl rfl).2
    have lt5_5:w1.heap.size<wr.heap.size:=(M5.out.lt (i:=5) rfl rfl).2
    obtain⟨bb,off,x0,x1,x2,x3,rfl,hv,hb,y0,y1,y2,y3⟩:=visit_at (HS2.out.ext M5.out.ext) hlt
    have HVk:=Lib.hid hv
    clear hv
    have HI:=Lib.hid fun(w':World) (hx:Ext wr w')=>hasInt_any q9 g c9 G x0 w' ((M5.out.sl (i:=3) rfl).ext hx)
    obtain⟨t,ht⟩: ∃t,G.contains x0=t:=⟨_,rfl⟩
    rw[ht]at HI
    have i1:(0:Int)≤(k:Int):=by omega
    have i2:(k:Int)<(m:Int):=by omega
    have i3: ¬(m≤k):=by omega
    obtain⟨ca0,ca1,ca2⟩:=(M5.out.blk (i:=4) rfl).tri
    obtain⟨cb0,cb1,cb2⟩:=(M5.out.blk (i:=5) rfl).tri
    cases t with
    |true=>
     have hfin:Hid ((W.take (k+1)).filter (restF G id)=(W.take k).filter (restF G id)):=rest_no HVk.out (by show(!G.contains x0&& !(x0==id))=false;rw[ht];rfl)
     clear ht
     go_wp2_with fail
     refine(HI.out _ (by(repeat' (first|exact Ext.refl _|(with_reducible assumption)|(with_reducible refine Ext.alloc ?_ _)|(with_reducible refine Ext.setCell ?_ (by first|exact Nat.le_refl _|(dsimp only;omega)|(simp;done)|(simp;omega)) _)|(with_reducible refine Ext.drew ?_)|(with_reducible refine Ext.drewN ?_ _)|(refine Ext.trans ?_ (by with_reducible assumption)))))).mono ?_
     rintro e w' ⟨rfl,rfl⟩
     go_wp2
     go_roundw
     case rel=>exact⟨k+1,gr,r,cr,rfl,by go_num,by omega,by rw[hfin.out];exact HR.out,by omega,by rw[hfin.out];exact M5.out⟩
     case measure=>simp[intOf];omega
    |false=>
     by_cases hid:x0=id
     ·have t1:(x0 !=id)=false:=by simp[hid]
      have hfin:Hid ((W.take (k+1)).filter (restF G id)=(W.take k).filter (restF G id)):=rest_no HVk.out (by show(!G.contains x0&& !(x0==id))=false;rw[ht];simp[hid])
      clear ht hid
      go_wp2_with fail
      refine(HI.out _ (by(repeat' (first|exact Ext.refl _|(with_reducible assumption)|(with_reducible refine Ext.alloc ?_ _)|(with_reducible refine Ext.setCell ?_ (by first|exact Nat.le_refl _|(dsimp only;omega)|(simp;done)|(simp;omega)) _)|(with_reducible refine Ext.drew ?_)|(with_reducible refine Ext.drewN ?_ _)|(refine Ext.trans ?_ (by with_reducible assumption)))))).mono ?_
      rintro e w' ⟨rfl,rfl⟩
      go_wp2
      go_roundw
      case rel=>exact⟨k+1,gr,r,cr,rfl,by go_num,by omega,by rw[hfin.out];exact HR.out,by omega,by rw[hfin.out];exact M5.out⟩
      case measure=>simp[intOf];omega
     ·have t1:(x0 !=id)=true:=by simp[hid]
      have hfin:Hid ((W.take (k+1)).filter (restF G id)=(W.take k).filter (restF G id)++ [(x0,x1,x2,x3)]):=rest_yes HVk.out (by show(!G.contains x0&& !(x0==id))=true;rw[ht];simp[hid])
      clear ht hid
      go_wp2_with fail
      refine(HI.out _ (by(repeat' (first|exact Ext.refl _|(with_reducible assumption)|(with_reducible refine Ext.alloc ?_ _)|(with_reducible refine Ext.setCell ?_ (by first|exact Nat.le_refl _|(dsimp only;omega)|(simp;done)|(simp;omega)) _)|(with_reducible refine Ext.drew ?_)|(with_reducible refine Ext.drewN ?_ _)|(refine Ext.trans ?_ (by with_reducible assumption)))))).mono ?_
      rintro e w' ⟨rfl,rfl⟩
      go_wp2_with (at_builtin;refine wpList_appM elBk rfl _ _ rfl (M5.out.adv ((Ext.refl _).alloc (.cells #[.int .i64 x0,.int .i64 x1,.int .i64 x2,.int .i64 x3] TBk))) 0 rfl rfl (visitCells (x0,x1,x2,x3)) rfl (sl_lit _ _ _ 1 4 _ (by first|rfl|simp) (by first|rfl|simp) (by simp[maxLen])) (book_one _) (by omega) ?_;intro q7 c7 w7 M7X;obtain⟨g7,hg7,_,_⟩:=M7X.some (i:=0) rfl (by omega);subst hg7;have M7:=Lib.hid (show Mem w1 w7 [ownI w1.heap.size TBk 4 ((some ⟨g7,0,none⟩)) ((r+1)) (c7) (((W.take (k+1)).filter (restF G id)).flatMap visitCells),ownI w1.heap.size TBk 4 (q5) (n') (c5) (T'.flatMap visitCells),ownI w1.heap.size TBk 4 (q6) (m') (c6) (W'.flatMap visitCells),ownI w1.heap.size TI 1 (q9) (g) (c9) (ivs G),blkI w1.heap.size (X) TDk #[.int .i64 P',.slice q5 n' c5,.slice q6 m' c6],blkI w1.heap.size (w1.heap.size) TDk #[.int .i64 P,.slice q n c,.slice (some ⟨bb,off,none⟩) m c2]]from by rw[hfin.out,List.flatMap_append];simpa using M7X);clear M7X)
      go_roundw
      case rel=>exact⟨k+1,g7,r+1,c7,rfl,by go_num,by omega,by rw[hfin.out];simp[HR.out],by omega,M7.out⟩
      case measure=>simp[intOf];omega
   ·skip
    have lt5_4:X<wr.heap.size:=(M5.out.lt (i:=4) rfl rfl).2
    have lt5_5:w1.heap.size<wr.heap.size:=(M5.out.lt (i:=5) rfl rfl).2
    have hkm:k=m:=by omega
    subst hkm
    clear hlt hk
    have hW2:(W.take k).filter (restF G id)=W':=by
     rw[List.take_of_length_le (by rw[hl2.out];exact Nat.le_refl _)]
     exact HF.out.row.symm
    have hrm:r=m':=by rw[HR.out,hW2];exact hl2'.out
    subst hrm
    have M6:=Lib.hid (show Mem w1 wr [ownI w1.heap.size TBk 4 ((some ⟨gr,0,none⟩)) (r) (cr) (W'.flatMap visitCells),ownI w1.heap.size TBk 4 (q5) (n') (c5) (T'.flatMap visitCells),ownI w1.heap.size TBk 4 (q6) (r) (c6) (W'.flatMap visitCells),ownI w1.heap.size TI 1 (q9) (g) (c9) (ivs G),blkI w1.heap.size (X) TDk #[.int .i64 P',.slice q5 n' c5,.slice q6 r c6],blkI w1.heap.size (w1.heap.size) TDk #[.int .i64 P,.slice q n c,.slice q2 k c2]]from by have h:=M5.out;rw[hW2]at h;exact h)
    clear M5 hW2 HR lt5_4 lt5_5
    have lt6_4:X<wr.heap.size:=(M6.out.lt (i:=4) rfl rfl).2
    have lt6_5:w1.heap.size<wr.heap.size:=(M6.out.lt (i:=5) rfl rfl).2
    obtain⟨ca0,ca1,ca2⟩:=(M6.out.blk (i:=4) rfl).tri
    obtain⟨cb0,cb1,cb2⟩:=(M6.out.blk (i:=5) rfl).tri
    go_wp2
    go_loopw [11] (fun i wr=> ∃j:Nat,j≤g∧i= .int .i64 (j:Int)∧Mem w1 wr [ownI w1.heap.size TBk 4 ((some ⟨gr,0,none⟩)) (r) (cr) (W'.flatMap visitCells),ownI w1.heap.size TBk 4 (q5) (n') (c5) (T'.flatMap visitCells),ownI w1.heap.size TBk 4 (q6) (r) (c6) (W'.flatMap visitCells),ownI w1.heap.size TI 1 (q9) (g) (c9) (ivs G),blkI w1.heap.size (X) TDk #[.int .i64 P',.slice q5 n' c5,.slice q6 r c6],blkI w1.heap.size (w1.heap.size) TDk #[.int .i64 P,.slice q n c,.slice q2 k c2]]) (fun i _=>g-(intOf i).toNat)
    case atStart=>exact⟨0,Nat.zero_le _,rfl,M6.out⟩
    case round=>
     clear M6 lt6_4 lt6_5 ca0 ca1 ca2 cb0 cb1 cb2
     obtain⟨j,hj,rfl,hM⟩:=hrel
     have M7:=Lib.hid hM
     clear hM
     by_cases hlt:j<g
     ·skip
      have lt7_4:X<wr.heap.size:=(M7.out.lt (i:=4) rfl rfl).2
      have lt7_5:w1.heap.size<wr.heap.size:=(M7.out.lt (i:=5) rfl rfl).2
      obtain⟨bb,off,x,rfl,hx,hb,y0⟩:=(M7.out.sl (i:=3) rfl).int_at hlt
      obtain⟨ho1,ho2⟩:=HF.out.old x (List.mem_of_getElem? hx)
      clear hx
      have ho1:hasId x W=true:=ho1
      have ho2:hasId x T'=true:=ho2
      have H1':=Lib.hid fun(w':World) (hx:Ext wr w')=>hasBook_w q2 k c2 W x w' (HS2.out.ext (M7.out.ext.trans hx))
      have H2':=Lib.hid fun(w':World) (hx:Ext wr w')=>hasBook_w q5 n' c5 T' x w' ((M7.out.sl (i:=1) rfl).ext hx)
      rw[ho1]at H1'
      rw[ho2]at H2'
      clear ho1 ho2
      have hgb:=(M7.out.sl (i:=3) rfl).bd
      have i1:(0:Int)≤(j:Int):=by omega
      have i2:(j:Int)<(g:Int):=by omega
      have i3: ¬(g≤j):=by omega
      obtain⟨ca0,ca1,ca2⟩:=(M7.out.blk (i:=4) rfl).tri
      obtain⟨cb0,cb1,cb2⟩:=(M7.out.blk (i:=5) rfl).tri
      go_wp2
      go_quiet ((first|(go_at_call 18;with_reducible exact quiet_l (H1'.out _ (Ext.drewN (Ext.refl _) _)))|(go_at_call 18;with_reducible exact quiet_l (H2'.out _ (Ext.drewN (Ext.refl _) _)))))
      go_wp2
      go_roundw
      case rel=>exact⟨j+1,by omega,by go_num,M7.out.adv (by(repeat' (first|exact Ext.refl _|(with_reducible assumption)|(with_reducible refine Ext.alloc ?_ _)|(with_reducible refine Ext.setCell ?_ (by first|exact Nat.le_refl _|(dsimp only;omega)|(simp;done)|(simp;omega)) _)|(with_reducible refine Ext.drew ?_)|(with_reducible refine Ext.drewN ?_ _)|(refine Ext.trans ?_ (by with_reducible assumption)))))⟩
      case measure=>simp[intOf];omega
     ·skip
      have lt7_4:X<wr.heap.size:=(M7.out.lt (i:=4) rfl rfl).2
      have lt7_5:w1.heap.size<wr.heap.size:=(M7.out.lt (i:=5) rfl rfl).2
      have hjg:j=g:=by omega
      subst hjg
      clear hlt hj
      have HVx:=Lib.hid fun(w':World) (h1:Sl w' q5 n' c5 4 (T'.flatMap visitCells)) (h2:Sl w' q6 r c6 4 (W'.flatMap visitCells))=>implDv P' q5 n' c5 q6 r c6 T' W' w' h1 h2
      rw[HK.out]at HVx
      have HT1:=Lib.hid fun(w':World) (h1:Sl w' q5 n' c5 4 (T'.flatMap visitCells))=>hasBook_any q5 n' c5 T' id w' h1
      have HT2:=Lib.hid fun(w':World) (h1:Sl w' q6 r c6 4 (W'.flatMap visitCells))=>hasBook_any q6 r c6 W' id w' h1
      have n1:hasId id T'=false:=HF.out.noT
      have n2:hasId id W'=false:=HF.out.noR
      rw[n1]at HT1
      rw[n2]at HT2
      clear n1 n2
      obtain⟨ca0,ca1,ca2⟩:=(M7.out.blk (i:=4) rfl).tri
      go_wp2_with fail
      clear ca0 ca1 ca2
      refine(HVx.out _ (M7.out.sl (i:=1) rfl) (M7.out.sl (i:=2) rfl)).mono ?_
      rintro e w8 ⟨rfl,hx8⟩
      have M8:=Lib.hid ((M7.out).adv hx8)
      clear M7
      clear lt7_4 lt7_5
      have lt8_4:X<w8.heap.size:=(M8.out.lt (i:=4) rfl rfl).2
      have lt8_5:w1.heap.size<w8.heap.size:=(M8.out.lt (i:=5) rfl rfl).2
      clear hx8
      obtain⟨ca0,ca1,ca2⟩:=(M8.out.blk (i:=4) rfl).tri
      go_wp2_with fail
      clear ca0 ca1 ca2
      refine(sameBooks_any q6 (some ⟨gr,0,none⟩) r c6 cr W' _ (M8.out.sl (i:=2) rfl) (M8.out.sl (i:=0) rfl)).mono ?_
      rintro e w9 ⟨rfl,hx9⟩
      have M9:=Lib.hid ((M8.out).adv hx9)
      clear M8
      clear lt8_4 lt8_5
      have lt9_4:X<w9.heap.size:=(M9.out.lt (i:=4) rfl rfl).2
      have lt9_5:w1.heap.size<w9.heap.size:=(M9.out.lt (i:=5) rfl rfl).2
      clear hx9
      obtain⟨ca0,ca1,ca2⟩:=(M9.out.blk (i:=4) rfl).tri
      go_wp2_with fail
      clear ca0 ca1 ca2
      refine(HT1.out _ (M9.out.sl (i:=1) rfl)).mono ?_
      rintro e w10 ⟨rfl,hx10⟩
      have M10:=Lib.hid ((M9.out).adv hx10)
      clear M9
      clear lt9_4 lt9_5
      have lt10_4:X<w10.heap.size:=(M10.out.lt (i:=4) rfl rfl).2
      have lt10_5:w1.heap.size<w10.heap.size:=(M10.out.lt (i:=5) rfl rfl).2
      clear hx10
      obtain⟨ca0,ca1,ca2⟩:=(M10.out.blk (i:=4) rfl).tri
      go_wp2_with fail
      clear ca0 ca1 ca2
      refine(HT2.out _ (M10.out.sl (i:=2) rfl)).mono ?_
      rintro e w11 ⟨rfl,hx11⟩
      have M11:=Lib.hid ((M10.out).adv hx11)
      clear M10
      clear lt10_4 lt10_5
      have lt11_4:X<w11.heap.size:=(M11.out.lt (i:=4) rfl rfl).2
      have lt11_5:w1.heap.size<w11.heap.size:=(M11.out.lt (i:=5) rfl rfl).2
      clear hx11
      have XZ:Ext w w11:=hX1.out.trans (M11.out).ext
      go_wp2
      go_ret
      exact⟨rfl,XZ⟩
theorem walk_FnDeskFree (W:World)(v:Value)(u:Unit)(hc:Code W v)(hE:Env W):Calls Tryd.prog 5 #[v] W fun e w'=>e= .returned (.bool true)∧Ext W w':=by
 have hD:=drawDeskFree v W hc
 obtain⟨p0,n,cap,bs,rfl,h,hb⟩:=hc
 by_cases hn:(n:Int)≤1048576
 ·exact fnDeskFree_o p0 n cap W hn (Lib.hid hE) hD
 ·exact fnDeskFree_big p0 n cap W (by omega)
end Go.Proofs.YtndcnflchkfaeaaDoor
