/-
  A law's walk or frame (@packed).
-/
import Derived.Test.YtndcnflchkfaeaaDoorK10
import Derived.Test.YtndcnflchkfaeaaDoorK22
import Derived.Test.YtndcnflchkfaeaaDoorK28
import Derived.Test.YtndcnflchkfaeaaDoorK32
namespace Go.Proofs.YtndcnflchkfaeaaDoor
open Go.RowKit
set_option linter.unusedVariables false
set_option linter.unusedSimpArgs false
theorem RetAsk.is {P N:Int}{T W:List Visit4}{n m:Nat}{w w':World}{e:Ending}(h:RetAsk (⟨P,T,W⟩,N) w e w')(hn:T.length=n)(hm:W.length=m):
  ∃qa ca qb cb,e= .returned (.tuple #[.agg #[.int .i64 P,.slice qa n ca,.slice qb m cb],.int .i64 N])∧Mem w w' [ownI w.heap.size TBk 4 qa n ca (T.flatMap visitCells),ownI w.heap.size TBk 4 qb m cb (W.flatMap visitCells)]:=by
 obtain⟨qa,na,ca,qb,nb,cb,he,h1,h2,hM⟩:=h
 have h1:na=T.length:=h1
 have h2:nb=W.length:=h2
 subst h1 h2 hn hm
 exact⟨qa,ca,qb,cb,he,hM⟩
structure AskLaw (T W T' W':List Visit4) (P' N:Int) (b:Visit4):Prop where
 ok:deskValid ⟨P',T',W'⟩=true
 len:T'.length+W'.length=T.length+W.length+1
 row:W.length≤W'.length
 tk: ∀(k:Nat) (c:Visit4),T[k]? =some c→hasId c.1 T'=true
 same: ∀k,k<W.length→W'[k]? =W[k]?
 what:(N=1∧hasId b.1 T'=true)∨(N=2∧W'.length=W.length+1∧W'[W.length]? =some b)
theorem ask_law (P:Int)(T W:List Visit4)(b:Visit4)(D:DeskD)(N:Int)(h:deskAsk ⟨P,T,W⟩ b=(D,N)):
  (D=⟨0,[],[]⟩∧N=0∧deskValid ⟨P,T,W⟩=false)∨(D=⟨P,T,W⟩∧N=0∧deskValid ⟨P,T,W⟩=true)∨AskLaw T W D.taken D.row D.places N b:=by
 cases hv:deskValid ⟨P,T,W⟩with
 |false=>
  rw[ask_bad _ _ hv]at h
  injection h with h1 h2
  exact .inl ⟨h1.symm,h2.symm,rfl⟩
 |true=>
  have hok:=ask_ok (b:=b) hv
  rw[h]at hok
  rcases ask_cases _ b hv with h1|h1|h1
  ·rw[h1]at h
   injection h with h2 h3
   exact .inr (.inl ⟨h2.symm,h3.symm,rfl⟩)
  ·rw[h1]at h
   injection h with h2 h3
   subst h2 h3
   refine .inr (.inr ⟨hok,?_,Nat.le_refl _,fun k c hc=>put_has (.inl (List.mem_of_getElem? hc)),fun _ _=>rfl,.inl ⟨rfl,put_has (.inr rfl)⟩⟩)
   show(putBook T b).length+W.length=_
   rw[putBook_len];omega
  ·rw[h1]at h
   injection h with h2 h3
   subst h2 h3
   refine .inr (.inr ⟨hok,?_,?_,fun k c hc=>at_has hc,fun k hk=>List.getElem?_append_left hk,.inr ⟨rfl,?_,?_⟩⟩)
   ·show T.length+(W++ [b]).length=_;simp;omega
   ·show W.length≤(W++ [b]).length;simp
   ·show(W++ [b]).length=_;simp
   ·show(W++ [b])[W.length]? =_;simp
set_option maxRecDepth 100000 in
set_option maxHeartbeats 8000000 in
theorem fnDeskAsk_big (p:Option Addr)(n cap:Nat)(w:World)(h:(1048576:Int)<n):
  Calls Tryd.prog 4 #[.slice p n cap] w fun e w'=>e= .returned (.bool true)∧Ext w w':=by
 go_enter Tryd.func4,Tryd.ntmps4
 go_wp2
 go_ret
 exact⟨rfl,by(repeat' (first|exact Ext.refl _|(with_reducible assumption)|(with_reducible refine Ext.alloc ?_ _)|(with_reducible refine Ext.setCell ?_ (by first|exact Nat.le_refl _|(dsimp only;omega)|(simp;done)|(simp;omega)) _)|(with_reducible refine Ext.drew ?_)|(with_reducible refine Ext.drewN ?_ _)|(refine Ext.trans ?_ (by with_reducible assumption))))⟩
set_option maxRecDepth 100000 in
set_option maxHeartbeats 8000000 in
theorem fnDeskAsk_o (p0:Option Addr)(n0 cap0:Nat)(w:World)(hn0:(n0:Int)≤1048576)(HE:Hid (Env w))
  (HD:Calls Tryd.prog 14 #[.slice p0 n0 cap0] w (DrewDeskBook w)):
  Calls Tryd.prog 4 #[.slice p0 n0 cap0] w fun e w'=>e= .returned (.bool true)∧Ext w w':=by
 unfold DrewDeskBook at HD
 have HD:=Lib.hid HD
 have hd0:decide ((1048576:Int)<(n0:Int))=false:=by simp;omega
 have hd1:decide (1048576<n0)=false:=by simp;omega
 go_enter Tryd.func4,Tryd.ntmps4
 go_wp2_with fail
 refine HD.out.mono ?_
 rintro e w1 ⟨P,T,W,q,c,q2,c2,b0,b1,b2,b3,rfl,hT,hW,ho,hv,hx1⟩
 have hX1:=Lib.hid hx1
 clear HD hx1 hd0 hd1
 obtain⟨n,hn⟩: ∃x,T.length=x:=⟨_,rfl⟩
 obtain⟨m,hm⟩: ∃x,W.length=x:=⟨_,rfl⟩
 rw[hn]at hT ho⊢
 rw[hm]at hW hv⊢
 have HS:=Lib.hid (Sl.own ho)
 have HS2:=Lib.hid (Sl.own hv)
 clear ho hv
 obtain⟨⟨⟨P',T',W'⟩,N⟩,hA⟩: ∃x,deskAsk ⟨P,T,W⟩ (b0,b1,b2,b3)=x:=⟨_,rfl⟩
 obtain⟨n',hn'⟩: ∃x,T'.length=x:=⟨_,rfl⟩
 obtain⟨m',hm'⟩: ∃x,W'.length=x:=⟨_,rfl⟩
 have hcases:=ask_law P T W (b0,b1,b2,b3) _ _ hA
 have hsm:n'≤7+n∧m'≤5+m:=by
  rcases hcases with⟨h1,_⟩|⟨h1,_⟩|h1
  ·injection h1 with _ h2 h3;subst h2 h3;simp at hn' hm';omega
  ·injection h1 with _ h2 h3;subst h2 h3;omega
  ·have:=desk_len h1.ok
   have h2:T'.length≤7:=this.1
   have h3:W'.length≤5:=this.2
   omega
 have HAi:=Lib.hid fun(w':World) (hx:Ext w1 w')=>(implAsk P q n c q2 m c2 b0 b1 b2 b3 T W w' (HS.out.ext hx) (HS2.out.ext hx)).mono (fun e w'' h=>by rw[hA]at h;exact h.is hn' hm')
 have HAs:=Lib.hid fun(w':World) (hx:Ext w1 w')=>(specAsk P q n c q2 m c2 b0 b1 b2 b3 T W w' (HS.out.ext hx) (HS2.out.ext hx)).mono (fun e w'' h=>by rw[hA]at h;exact h.is hn' hm')
 have HC:=Lib.hid hcases
 have hl:=Lib.hid hn
 have hl2:=Lib.hid hm
 have hl':=Lib.hid hn'
 have hl2':=Lib.hid hm'
 clear hcases hA hn hm hn' hm'
 go_wp2_with fail
 refine(HAi.out _ (((((Mem.start w1).blkNew TDk #[.int .i64 P,.slice q n c,.slice q2 m c2] (w1.heap.size) (by simp))).blkNew TBk #[.int .i64 b0,.int .i64 b1,.int .i64 b2,.int .i64 b3] (w1.heap.size+1) (by simp))).ext).mono ?_
 rintro e w2 ⟨q5,c5,q6,c6,rfl,hm2⟩
 have M2:=Lib.hid ((((((Mem.start w1).blkNew TDk #[.int .i64 P,.slice q n c,.slice q2 m c2] (w1.heap.size) (by simp))).blkNew TBk #[.int .i64 b0,.int .i64 b1,.int .i64 b2,.int .i64 b3] (w1.heap.size+1) (by simp))).call2 hm2)
 have lt2_2:w1.heap.size+1<w2.heap.size:=(M2.out.lt (i:=2) rfl rfl).2
 have lt2_3:w1.heap.size<w2.heap.size:=(M2.out.lt (i:=3) rfl rfl).2
 clear hm2
 obtain⟨ca0,ca1,ca2⟩:=(M2.out.blk (i:=3) rfl).tri
 obtain⟨cb0,cb1,cb2,cb3,_,_,_,_⟩:=(M2.out.blk (i:=2) rfl).four
 go_wp2_with fail
 clear ca0 ca1 ca2 cb0 cb1 cb2 cb3
 refine(HAs.out _ (((M2.out).blkNew TDk #[.int .i64 P',.slice q5 n' c5,.slice q6 m' c6] (w2.heap.size) (by simp))).ext).mono ?_
 rintro e w3 ⟨q7,c7,q8,c8,rfl,hm3⟩
 have M3:=Lib.hid ((((M2.out).blkNew TDk #[.int .i64 P',.slice q5 n' c5,.slice q6 m' c6] (w2.heap.size) (by simp))).call2 hm3)
 clear M2
 clear lt2_2 lt2_3
 have lt3_2:w2.heap.size<w3.heap.size:=(M3.out.lt (i:=2) rfl rfl).2
 have lt3_5:w1.heap.size+1<w3.heap.size:=(M3.out.lt (i:=5) rfl rfl).2
 have lt3_6:w1.heap.size<w3.heap.size:=(M3.out.lt (i:=6) rfl rfl).2
 clear hm3
 obtain⟨ca0,ca1,ca2⟩:=(M3.out.blk (i:=2) rfl).tri
 go_wp2_with fail
 clear ca0 ca1 ca2
 refine(sameDesk_any P' q5 n' c5 q6 m' c6 q7 c7 q8 c8 T' W' _ ((((M3.out).blkNew TDk #[.int .i64 P',.slice q7 n' c7,.slice q8 m' c8] (w3.heap.size) (by simp))).sl (i:=4) rfl) ((((M3.out).blkNew TDk #[.int .i64 P',.slice q7 n' c7,.slice q8 m' c8] (w3.heap.size) (by simp))).sl (i:=5) rfl) ((((M3.out).blkNew TDk #[.int .i64 P',.slice q7 n' c7,.slice q8 m' c8] (w3.heap.size) (by simp))).sl (i:=1) rfl) ((((M3.out).blkNew TDk #[.int .i64 P',.slice q7 n' c7,.slice q8 m' c8] (w3.heap.size) (by simp))).sl (i:=2) rfl)).mono ?_
 rintro e w4 ⟨rfl,hx4⟩
 have M4:=Lib.hid ((((M3.out).blkNew TDk #[.int .i64 P',.slice q7 n' c7,.slice q8 m' c8] (w3.heap.size) (by simp))).adv hx4)
 clear M3
 clear lt3_2 lt3_5 lt3_6
 have lt4_0:w3.heap.size<w4.heap.size:=(M4.out.lt (i:=0) rfl rfl).2
 have lt4_3:w2.heap.size<w4.heap.size:=(M4.out.lt (i:=3) rfl rfl).2
 have lt4_6:w1.heap.size+1<w4.heap.size:=(M4.out.lt (i:=6) rfl rfl).2
 have lt4_7:w1.heap.size<w4.heap.size:=(M4.out.lt (i:=7) rfl rfl).2
 clear hx4
 clear HAi HAs
 have M5:=Lib.hid (show Mem w1 w4 [ownI w1.heap.size TBk 4 (q5) (n') (c5) (T'.flatMap visitCells),ownI w1.heap.size TBk 4 (q6) (m') (c6) (W'.flatMap visitCells),blkI w1.heap.size (w2.heap.size) TDk #[.int .i64 P',.slice q5 n' c5,.slice q6 m' c6],blkI w1.heap.size (w1.heap.size+1) TBk #[.int .i64 b0,.int .i64 b1,.int .i64 b2,.int .i64 b3],blkI w1.heap.size (w1.heap.size) TDk #[.int .i64 P,.slice q n c,.slice q2 m c2]]from((M4.out).pick [4,5,3,6,7] (by decide) rfl))
 clear M4 lt4_0 lt4_3 lt4_6 lt4_7
 have lt5_2:w2.heap.size<w4.heap.size:=(M5.out.lt (i:=2) rfl rfl).2
 have lt5_3:w1.heap.size+1<w4.heap.size:=(M5.out.lt (i:=3) rfl rfl).2
 have lt5_4:w1.heap.size<w4.heap.size:=(M5.out.lt (i:=4) rfl rfl).2
 have hXz:w1.heap.size<w2.heap.size:=by
  have h1:=(M5.out.lt (i:=2) rfl rfl).1
  have h2:=M5.out.ne (i:=2) (j:=4) (by omega) rfl rfl rfl rfl
  omega
 obtain⟨X,hX⟩: ∃a,a=w2.heap.size:=⟨_,rfl⟩
 rw[←hX]at M5 hXz lt5_2⊢
 clear hX
 rcases HC.out with⟨h1,rfl,h2⟩|⟨h1,rfl,h2⟩|h1
 ·skip
  injection h1 with e1 e2 e3
  subst e1 e2 e3
  have n0:n'=0:=by simpa using hl'.out.symm
  have m0:m'=0:=by simpa using hl2'.out.symm
  subst n0 m0
  clear HC
  have HV:=Lib.hid fun(w':World) (hx:Ext w1 w')=>implDv P q n c q2 m c2 T W w' (HS.out.ext hx) (HS2.out.ext hx)
  rw[h2]at HV
  clear h2
  obtain⟨ca0,ca1,ca2⟩:=(M5.out.blk (i:=2) rfl).tri
  obtain⟨cb0,cb1,cb2⟩:=(M5.out.blk (i:=4) rfl).tri
  go_wp2_with fail
  clear ca0 ca1 ca2 cb0 cb1 cb2
  refine(sameDesk_zero P q n c q2 m c2 q5 q6 c5 c6 _).mono ?_
  rintro e w6 ⟨⟨t,rfl⟩,hx⟩
  have M6:=Lib.hid ((M5.out).adv hx)
  clear M5
  clear lt5_2 lt5_3 lt5_4
  have lt6_2:X<w6.heap.size:=(M6.out.lt (i:=2) rfl rfl).2
  have lt6_3:w1.heap.size+1<w6.heap.size:=(M6.out.lt (i:=3) rfl rfl).2
  have lt6_4:w1.heap.size<w6.heap.size:=(M6.out.lt (i:=4) rfl rfl).2
  clear hx
  cases t with
  |true=>
   go_wp2_with fail
   refine(alive_any _ (HE.out.ext (hX1.out.trans (M6.out).ext))).mono ?_
   rintro e wz ⟨rfl,hxz⟩
   have XZ:Ext w wz:=hX1.out.trans ((M6.out).ext.trans hxz)
   go_wp2
   go_ret
   exact⟨rfl,XZ⟩
  |false=>
   obtain⟨cb0,cb1,cb2⟩:=(M6.out.blk (i:=4) rfl).tri
   go_wp2_with fail
   clear cb0 cb1 cb2
   refine(HV.out _ (M6.out).ext).mono ?_
   rintro e w7 ⟨rfl,hx7⟩
   have M7:=Lib.hid ((M6.out).adv hx7)
   clear M6
   clear lt6_2 lt6_3 lt6_4
   have lt7_2:X<w7.heap.size:=(M7.out.lt (i:=2) rfl rfl).2
   have lt7_3:w1.heap.size+1<w7.heap.size:=(M7.out.lt (i:=3) rfl rfl).2
   have lt7_4:w1.heap.size<w7.heap.size:=(M7.out.lt (i:=4) rfl rfl).2
   clear hx7
   go_wp2_with fail
   refine(alive_any _ (HE.out.ext (hX1.out.trans (M7.out).ext))).mono ?_
   rintro e wz ⟨rfl,hxz⟩
   have XZ:Ext w wz:=hX1.out.trans ((M7.out).ext.trans hxz)
   go_wp2
   go_ret
   exact⟨rfl,XZ⟩
 ·skip
  injection h1 with e1 e2 e3
  subst e1 e2 e3
  have n0:n'=n:=hl'.out.symm.trans hl.out
  have m0:m'=m:=hl2'.out.symm.trans hl2.out
  subst n0 m0
  clear HC h2
  obtain⟨ca0,ca1,ca2⟩:=(M5.out.blk (i:=2) rfl).tri
  obtain⟨cb0,cb1,cb2⟩:=(M5.out.blk (i:=4) rfl).tri
  go_wp2_with fail
  clear ca0 ca1 ca2 cb0 cb1 cb2
  refine(sameDesk_any P' q5 n' c5 q6 m' c6 q c q2 c2 T' W' _ (M5.out.sl (i:=0) rfl) (M5.out.sl (i:=1) rfl) (HS.out.ext M5.out.ext) (HS2.out.ext M5.out.ext)).mono ?_
  rintro e w6 ⟨rfl,hx6⟩
  have M6:=Lib.hid ((M5.out).adv hx6)
  clear M5
  clear lt5_2 lt5_3 lt5_4
  have lt6_2:X<w6.heap.size:=(M6.out.lt (i:=2) rfl rfl).2
  have lt6_3:w1.heap.size+1<w6.heap.size:=(M6.out.lt (i:=3) rfl rfl).2
  have lt6_4:w1.heap.size<w6.heap.size:=(M6.out.lt (i:=4) rfl rfl).2
  clear hx6
  go_wp2_with fail
  refine(alive_any _ (HE.out.ext (hX1.out.trans (M6.out).ext))).mono ?_
  rintro e wz ⟨rfl,hxz⟩
  have XZ:Ext w wz:=hX1.out.trans ((M6.out).ext.trans hxz)
  go_wp2
  go_ret
  exact⟨rfl,XZ⟩
 ·skip
  have HA:=Lib.hid h1
  clear HC h1
  have hN:(N==0)=false:=by rcases HA.out.what with⟨h,_⟩|⟨h,_⟩<;>simp[h]
  have hlen:n'+m'=n+m+1:=by have h:=HA.out.len;have h1:=hl.out;have h2:=hl2.out;have h3:=hl'.out;have h4:=hl2'.out;omega
  have hrow:m≤m':=by have h:=HA.out.row;have h2:=hl2.out;have h4:=hl2'.out;omega
  have e1:((n':Int)+(m':Int)==(n:Int)+(m:Int)+1)=true:=by simp;omega
  obtain⟨ca0,ca1,ca2⟩:=(M5.out.blk (i:=2) rfl).tri
  obtain⟨cb0,cb1,cb2⟩:=(M5.out.blk (i:=4) rfl).tri
  go_wp2
  go_loopw [9,10] (fun o i wr=>o= .bool true∧ ∃k:Nat,k≤n∧i= .int .i64 (k:Int)∧Mem w1 wr [ownI w1.heap.size TBk 4 (q5) (n') (c5) (T'.flatMap visitCells),ownI w1.heap.size TBk 4 (q6) (m') (c6) (W'.flatMap visitCells),blkI w1.heap.size (X) TDk #[.int .i64 P',.slice q5 n' c5,.slice q6 m' c6],blkI w1.heap.size (w1.heap.size+1) TBk #[.int .i64 b0,.int .i64 b1,.int .i64 b2,.int .i64 b3],blkI w1.heap.size (w1.heap.size) TDk #[.int .i64 P,.slice q n c,.slice q2 m c2]]) (fun _ i _=>n-(intOf i).toNat)
  case atStart=>exact⟨rfl,0,Nat.zero_le _,rfl,M5.out⟩
  case round=>
   clear M5 lt5_2 lt5_3 lt5_4 ca0 ca1 ca2 cb0 cb1 cb2
   obtain⟨rfl,k,hk,rfl,hM⟩:=hrel
   have M5:=Lib.hid hM
   clear hM
   by_cases hlt:k<n
   ·skip
    have lt5_2:X<wr.heap.size:=(M5.out.lt (i:=2) rfl rfl).2
    have lt5_3:w1.heap.size+1<wr.heap.size:=(M5.out.lt (i:=3) rfl rfl).2
    have lt5_4:w1.heap.size<wr.heap.size:=(M5.out.lt (i:=4) rfl rfl).2
    obtain⟨bb,off,x0,x1,x2,x3,rfl,hv,hb,y0,y1,y2,y3⟩:=visit_at (HS.out.ext M5.out.ext) hlt
    have HB:=HA.out.tk k _ hv
    have HH:=Lib.hid fun(w':World) (hx:Ext wr w')=>hasBook_w q5 n' c5 T' x0 w' ((M5.out.sl (i:=0) rfl).ext hx)
    rw[HB]at HH
    clear hv HB
    have i1:(0:Int)≤(k:Int):=by omega
    have i2:(k:Int)<(n:Int):=by omega
    have i3: ¬(n≤k):=by omega
    obtain⟨ca0,ca1,ca2⟩:=(M5.out.blk (i:=2) rfl).tri
    obtain⟨cb0,cb1,cb2⟩:=(M5.out.blk (i:=4) rfl).tri
    go_wp2
    go_quiet ((go_at_call 18;exact quiet_l (HH.out _ (Ext.drewN (Ext.refl _) _))))
    go_wp2
    go_roundw
    case rel=>exact⟨rfl,k+1,by omega,by go_num,M5.out.adv (by(repeat' (first|exact Ext.refl _|(with_reducible assumption)|(with_reducible refine Ext.alloc ?_ _)|(with_reducible refine Ext.setCell ?_ (by first|exact Nat.le_refl _|(dsimp only;omega)|(simp;done)|(simp;omega)) _)|(with_reducible refine Ext.drew ?_)|(with_reducible refine Ext.drewN ?_ _)|(refine Ext.trans ?_ (by with_reducible assumption)))))⟩
    case measure=>simp[intOf];omega
   ·skip
    have lt5_2:X<wr.heap.size:=(M5.out.lt (i:=2) rfl rfl).2
    have lt5_3:w1.heap.size+1<wr.heap.size:=(M5.out.lt (i:=3) rfl rfl).2
    have lt5_4:w1.heap.size<wr.heap.size:=(M5.out.lt (i:=4) rfl rfl).2
    have hkn:k=n:=by omega
    subst hkn
    clear hlt hk
    obtain⟨ca0,ca1,ca2⟩:=(M5.out.blk (i:=2) rfl).tri
    obtain⟨cb0,cb1,cb2⟩:=(M5.out.blk (i:=4) rfl).tri
    go_wp2
    go_loopw [9,11] (fun o i wr=>o= .bool true∧ ∃j:Nat,j≤m∧i= .int .i64 (j:Int)∧Mem w1 wr [ownI w1.heap.size TBk 4 (q5) (n') (c5) (T'.flatMap visitCells),ownI w1.heap.size TBk 4 (q6) (m') (c6) (W'.flatMap visitCells),blkI w1.heap.size (X) TDk #[.int .i64 P',.slice q5 n' c5,.slice q6 m' c6],blkI w1.heap.size (w1.heap.size+1) TBk #[.int .i64 b0,.int .i64 b1,.int .i64 b2,.int .i64 b3],blkI w1.heap.size (w1.heap.size) TDk #[.int .i64 P,.slice q k c,.slice q2 m c2]]) (fun _ i _=>m-(intOf i).toNat)
    case atStart=>exact⟨rfl,0,Nat.zero_le _,rfl,M5.out⟩
    case round=>
     clear M5 lt5_2 lt5_3 lt5_4 ca0 ca1 ca2 cb0 cb1 cb2
     obtain⟨rfl,j,hj,rfl,hM⟩:=hrel
     have M6:=Lib.hid hM
     clear hM
     by_cases hlt:j<m
     ·skip
      have lt6_2:X<wr.heap.size:=(M6.out.lt (i:=2) rfl rfl).2
      have lt6_3:w1.heap.size+1<wr.heap.size:=(M6.out.lt (i:=3) rfl rfl).2
      have lt6_4:w1.heap.size<wr.heap.size:=(M6.out.lt (i:=4) rfl rfl).2
      obtain⟨bb,off,x0,x1,x2,x3,rfl,hv,hb,y0,y1,y2,y3⟩:=visit_at (HS2.out.ext M6.out.ext) hlt
      obtain⟨bb2,off2,z0,z1,z2,z3,rfl,hv2,hb2,u0,u1,u2,u3⟩:=visit_at (M6.out.sl (i:=1) rfl) (show j<m' by omega)
      rw[HA.out.same j (by rw[hl2.out];exact hlt),hv]at hv2
      injection hv2 with hv2
      injection hv2 with e0 hv2
      injection hv2 with e1' hv2
      injection hv2 with e2 e3
      subst e0 e1' e2 e3
      clear hv
      have i1:(0:Int)≤(j:Int):=by omega
      have i2:(j:Int)<(m:Int):=by omega
      have i4:(j:Int)<(m':Int):=by omega
      have i3: ¬(m≤j):=by omega
      have t1:decide ((j:Int)<(m':Int))=true:=by simp;omega
      obtain⟨ca0,ca1,ca2⟩:=(M6.out.blk (i:=2) rfl).tri
      obtain⟨cb0,cb1,cb2⟩:=(M6.out.blk (i:=4) rfl).tri
      go_wp2
      go_quiet (fail)
      go_wp2
      go_roundw
      case rel=>exact⟨rfl,j+1,by omega,by go_num,M6.out.adv (by(repeat' (first|exact Ext.refl _|(with_reducible assumption)|(with_reducible refine Ext.alloc ?_ _)|(with_reducible refine Ext.setCell ?_ (by first|exact Nat.le_refl _|(dsimp only;omega)|(simp;done)|(simp;omega)) _)|(with_reducible refine Ext.drew ?_)|(with_reducible refine Ext.drewN ?_ _)|(refine Ext.trans ?_ (by with_reducible assumption)))))⟩
      case measure=>simp[intOf];omega
     ·skip
      have lt6_2:X<wr.heap.size:=(M6.out.lt (i:=2) rfl rfl).2
      have lt6_3:w1.heap.size+1<wr.heap.size:=(M6.out.lt (i:=3) rfl rfl).2
      have lt6_4:w1.heap.size<wr.heap.size:=(M6.out.lt (i:=4) rfl rfl).2
      have hjm:j=m:=by omega
      subst hjm
      clear hlt hj
      have hlm:decide ((j:Int)<(j:Int))=false:=by simp
      have HVx:=Lib.hid fun(w':World) (hx:Ext wr w')=>implDv P' q5 n' c5 q6 m' c6 T' W' w' ((M6.out.sl (i:=0) rfl).ext hx) ((M6.out.sl (i:=1) rfl).ext hx)
      rw[HA.out.ok]at HVx
      have B0:=Lib.hid (M6.out.blk (i:=2) rfl)
      have B2:=Lib.hid (M6.out.blk (i:=3) rfl)
      obtain⟨ca0,ca1,ca2⟩:=(M6.out.blk (i:=2) rfl).tri
      obtain⟨cb0,cb1,cb2⟩:=(M6.out.blk (i:=4) rfl).tri
      rcases HA.out.what with⟨rfl,hw⟩|⟨rfl,hw1,hw2⟩
      ·skip
       have HH:=Lib.hid fun(w':World) (hx:Ext wr w')=>hasBook_any q5 n' c5 T' b0 w' ((M6.out.sl (i:=0) rfl).ext hx)
       rw[hw]at HH
       go_wp2
       refine region_lin (gl [gEq (.agg #[.int .i64 (P'),.slice q5 n' c5,.slice q6 m' c6]),gEq (.bool true),gEq (.bool true),gEq (.bool true),gEq (.bool true),gEq (.bool true),gEq (.int .i64 1),gEq (.bool true),gEq (.bool true),gEq (.pointer (some ⟨X,1,none⟩)),gEq (.slice q5 n' c5),gEq (.pointer (some ⟨w1.heap.size+1,0,none⟩)),gEq (.int .i64 b0),gEq (.bool true),gEq (.bool true),gEq (.bool true),gEq (undef),gEq (undef),gEq (undef),gEq (undef),gEq (undef),gEq (undef),gEq (undef),gEq (undef),gEq (undef),gEq (undef),gEq (undef),gEq (undef),gEq (undef),gEq (undef),gEq (undef),gEq (undef),gEq (undef),gEq (undef),gEq (undef),gEq (undef),gEq (.bool true),gEq (.bool true),gEq (.bool true)]) 39 (by kernel_rfl) rfl (by kernel_rfl) (by kernel_rfl) (by kernel_rfl) (gl_mono (gl_cons (gEq_mono _) (gl_cons (gEq_mono _) (gl_cons (gEq_mono _) (gl_cons (gEq_mono _) (gl_cons (gEq_mono _) (gl_cons (gEq_mono _) (gl_cons (gEq_mono _) (gl_cons (gEq_mono _) (gl_cons (gEq_mono _) (gl_cons (gEq_mono _) (gl_cons (gEq_mono _) (gl_cons (gEq_mono _) (gl_cons (gEq_mono _) (gl_cons (gEq_mono _) (gl_cons (gEq_mono _) (gl_cons (gEq_mono _) (gl_cons (gEq_mono _) (gl_cons (gEq_mono _) (gl_cons (gEq_mono _) (gl_cons (gEq_mono _) (gl_cons (gEq_mono _) (gl_cons (gEq_mono _) (gl_cons (gEq_mono _) (gl_cons (gEq_mono _) (gl_cons (gEq_mono _) (gl_cons (gEq_mono _) (gl_cons (gEq_mono _) (gl_cons (gEq_mono _) (gl_cons (gEq_mono _) (gl_cons (gEq_mono _) (gl_cons (gEq_mono _) (gl_cons (gEq_mono _) (gl_cons (gEq_mono _) (gl_cons (gEq_mono _) (gl_cons (gEq_mono _) (gl_cons (gEq_mono _) (gl_cons (gEq_mono _) (gl_cons (gEq_mono _) (gl_cons (gEq_mono _) (gl_nil))))))))))))))))))))))))))))))))))))))))) (k:=39) (by kernel_rfl) (by decide) (ls:= [(0,some 117),(1,some 118),(2,some 119),(3,some 120),(4,some 121),(5,some 122),(6,some 123),(7,some 124),(8,some 125),(9,some 126),(10,some 127),(11,some 128),(12,some 129),(13,some 130),(14,some 131),(15,some 132),(16,some 133),(17,some 134),(18,some 135),(19,some 136),(20,some 137),(21,some 138),(22,some 139),(23,some 140),(24,some 141),(25,some 142),(26,some 143),(27,some 144),(28,some 145),(29,some 146),(30,some 147),(31,some 148),(32,some 149),(33,some 150),(34,some 151),(35,some 152),(36,some 153),(37,some 154),(38,some 2)]) (by kernel_rfl) (ir:= [0,1,2,3,4,5,6,7,8,9,10,11,12,13,14,15,16,17,18,19,20,21,22,23,24,25,26,27,28,29,30,31,32,33,34,35,36,37,38]) (by kernel_rfl) ?steps (tl:=#[true,true,true,true,true,true,true,true,true,true,true,true,true,true,true,true,true,true,true,true,true,true,true,true,true,true,true,true,true,true,true,true,true,true,true,true,true,true,true]) (by kernel_rfl) ?fin
       case steps=>
        refine StepsL.cons (ps:= []) rfl (by kernel_rfl) (fun wi hx=> ?_) ?_
        ·intro K hK
         have hX:Ext wr wi:=by(repeat' (first|exact Ext.refl _|(with_reducible assumption)|(with_reducible refine Ext.alloc ?_ _)|(with_reducible refine Ext.setCell ?_ (by first|exact Nat.le_refl _|(dsimp only;omega)|(simp;done)|(simp;omega)) _)|(with_reducible refine Ext.drew ?_)|(with_reducible refine Ext.drewN ?_ _)|(refine Ext.trans ?_ (by with_reducible assumption))))
         obtain⟨cl0,cl1,cl2⟩:=((B0.out.ext hX)).tri
         go_simp
         exact hK _ _ ⟨.agg #[.int .i64 (P'),.slice q5 n' c5,.slice q6 m' c6],rfl,rfl,Ext.refl _⟩
        refine StepsL.cons (ps:= [(0,some 117)]) rfl (by kernel_rfl) (fun wi hx=> ?_) ?_
        ·intro v0 h0 K hK
         obtain rfl:=h0
         go_simp
         refine(HVx.out _ (by(repeat' (first|exact Ext.refl _|(with_reducible assumption)|(with_reducible refine Ext.alloc ?_ _)|(with_reducible refine Ext.setCell ?_ (by first|exact Nat.le_refl _|(dsimp only;omega)|(simp;done)|(simp;omega)) _)|(with_reducible refine Ext.drew ?_)|(with_reducible refine Ext.drewN ?_ _)|(refine Ext.trans ?_ (by with_reducible assumption)))))).mono ?_
         rintro e w5 ⟨rfl,hx5⟩
         go_simp
         exact hK _ _ ⟨.bool true,rfl,rfl,hx5⟩
        refine StepsL.cons (ps:= [(1,some 118)]) rfl (by kernel_rfl) (fun wi hx=> ?_) ?_
        ·intro v1 h1 K hK
         obtain rfl:=h1
         go_simp
         exact hK _ _ ⟨.bool true,rfl,rfl,Ext.refl _⟩
        refine StepsL.cons (ps:= [(2,some 119)]) rfl (by kernel_rfl) (fun wi hx=> ?_) ?_
        ·intro v2 h2 K hK
         obtain rfl:=h2
         go_simp
         exact hK _ _ ⟨.bool true,rfl,rfl,Ext.refl _⟩
        refine StepsL.cons (ps:= [(2,some 119),(3,some 120)]) rfl (by kernel_rfl) (fun wi hx=> ?_) ?_
        ·intro v2 h2 v3 h3 K hK
         obtain rfl:=h2
         obtain rfl:=h3
         go_simp
         exact hK _ _ ⟨.bool true,rfl,rfl,Ext.refl _⟩
        refine StepsL.cons (ps:= [(4,some 121)]) rfl (by kernel_rfl) (fun wi hx=> ?_) ?_
        ·intro v4 h4 K hK
         obtain rfl:=h4
         go_simp
         exact hK _ _ ⟨.bool true,rfl,rfl,Ext.refl _⟩
        refine StepsL.cons (ps:= [(5,some 122)]) rfl (by kernel_rfl) (fun wi hx=> ?_) ?_
        ·intro v5 h5 K hK
         obtain rfl:=h5
         go_simp
         exact hK _ _ ⟨.int .i64 1,rfl,rfl,Ext.refl _⟩
        refine StepsL.cons (ps:= [(5,some 122),(6,some 123)]) rfl (by kernel_rfl) (fun wi hx=> ?_) ?_
        ·intro v5 h5 v6 h6 K hK
         obtain rfl:=h5
         obtain rfl:=h6
         go_simp
         exact hK _ _ ⟨.bool true,rfl,rfl,Ext.refl _⟩
        refine StepsL.cons (ps:= [(5,some 122),(7,some 124)]) rfl (by kernel_rfl) (fun wi hx=> ?_) ?_
        ·intro v5 h5 v7 h7 K hK
         obtain rfl:=h5
         obtain rfl:=h7
         go_simp
         exact hK _ _ ⟨.bool true,rfl,rfl,Ext.refl _⟩
        refine StepsL.cons (ps:= [(8,some 125)]) rfl (by kernel_rfl) (fun wi hx=> ?_) ?_
        ·intro v8 h8 K hK
         obtain rfl:=h8
         go_simp
         exact hK _ _ ⟨.pointer (some ⟨X,1,none⟩),rfl,rfl,Ext.refl _⟩
        refine StepsL.cons (ps:= [(8,some 125),(9,some 126)]) rfl (by kernel_rfl) (fun wi hx=> ?_) ?_
        ·intro v8 h8 v9 h9 K hK
         obtain rfl:=h8
         obtain rfl:=h9
         have hX:Ext wr wi:=by(repeat' (first|exact Ext.refl _|(with_reducible assumption)|(with_reducible refine Ext.alloc ?_ _)|(with_reducible refine Ext.setCell ?_ (by first|exact Nat.le_refl _|(dsimp only;omega)|(simp;done)|(simp;omega)) _)|(with_reducible refine Ext.drew ?_)|(with_reducible refine Ext.drewN ?_ _)|(refine Ext.trans ?_ (by with_reducible assumption))))
         have cl0:wi.cell? ⟨X,1,none⟩=some (.slice q5 n' c5):=(B0.out.ext hX).cell 1
         go_simp
         exact hK _ _ ⟨.slice q5 n' c5,rfl,rfl,Ext.refl _⟩
        refine StepsL.cons (ps:= [(8,some 125)]) rfl (by kernel_rfl) (fun wi hx=> ?_) ?_
        ·intro v8 h8 K hK
         obtain rfl:=h8
         go_simp
         exact hK _ _ ⟨.pointer (some ⟨w1.heap.size+1,0,none⟩),rfl,rfl,Ext.refl _⟩
        refine StepsL.cons (ps:= [(8,some 125),(11,some 128)]) rfl (by kernel_rfl) (fun wi hx=> ?_) ?_
        ·intro v8 h8 v11 h11 K hK
         obtain rfl:=h8
         obtain rfl:=h11
         have hX:Ext wr wi:=by(repeat' (first|exact Ext.refl _|(with_reducible assumption)|(with_reducible refine Ext.alloc ?_ _)|(with_reducible refine Ext.setCell ?_ (by first|exact Nat.le_refl _|(dsimp only;omega)|(simp;done)|(simp;omega)) _)|(with_reducible refine Ext.drew ?_)|(with_reducible refine Ext.drewN ?_ _)|(refine Ext.trans ?_ (by with_reducible assumption))))
         have cl0:wi.cell? ⟨w1.heap.size+1,0,none⟩=some (.int .i64 b0):=(B2.out.ext hX).cell 0
         go_simp
         exact hK _ _ ⟨.int .i64 b0,rfl,rfl,Ext.refl _⟩
        refine StepsL.cons (ps:= [(8,some 125),(10,some 127),(12,some 129)]) rfl (by kernel_rfl) (fun wi hx=> ?_) ?_
        ·intro v8 h8 v10 h10 v12 h12 K hK
         obtain rfl:=h8
         obtain rfl:=h10
         obtain rfl:=h12
         go_simp
         refine(HH.out _ (by(repeat' (first|exact Ext.refl _|(with_reducible assumption)|(with_reducible refine Ext.alloc ?_ _)|(with_reducible refine Ext.setCell ?_ (by first|exact Nat.le_refl _|(dsimp only;omega)|(simp;done)|(simp;omega)) _)|(with_reducible refine Ext.drew ?_)|(with_reducible refine Ext.drewN ?_ _)|(refine Ext.trans ?_ (by with_reducible assumption)))))).mono ?_
         rintro e w5 ⟨rfl,hx5⟩
         go_simp
         exact hK _ _ ⟨.bool true,rfl,rfl,hx5⟩
        refine StepsL.cons (ps:= [(5,some 122),(8,some 125),(13,some 130)]) rfl (by kernel_rfl) (fun wi hx=> ?_) ?_
        ·intro v5 h5 v8 h8 v13 h13 K hK
         obtain rfl:=h5
         obtain rfl:=h8
         obtain rfl:=h13
         go_simp
         exact hK _ _ ⟨.bool true,rfl,rfl,Ext.refl _⟩
        refine StepsL.cons (ps:= [(5,some 122),(14,some 131)]) rfl (by kernel_rfl) (fun wi hx=> ?_) ?_
        ·intro v5 h5 v14 h14 K hK
         obtain rfl:=h5
         obtain rfl:=h14
         go_simp
         exact hK _ _ ⟨.bool true,rfl,rfl,Ext.refl _⟩
        refine StepsL.cons (ps:= [(15,some 132)]) rfl (by kernel_rfl) (fun wi hx=> ?_) ?_
        ·intro v15 h15 K hK
         obtain rfl:=h15
         go_simp
         exact hK _ _ ⟨undef,rfl,rfl,Ext.refl _⟩
        refine StepsL.cons (ps:= [(15,some 132),(16,some 133)]) rfl (by kernel_rfl) (fun wi hx=> ?_) ?_
        ·intro v15 h15 v16 h16 K hK
         obtain rfl:=h15
         obtain rfl:=h16
         go_simp
         exact hK _ _ ⟨undef,rfl,rfl,Ext.refl _⟩
        refine StepsL.cons (ps:= [(15,some 132),(17,some 134)]) rfl (by kernel_rfl) (fun wi hx=> ?_) ?_
        ·intro v15 h15 v17 h17 K hK
         obtain rfl:=h15
         obtain rfl:=h17
         go_simp
         exact hK _ _ ⟨undef,rfl,rfl,Ext.refl _⟩
        refine StepsL.cons (ps:= [(18,some 135)]) rfl (by kernel_rfl) (fun wi hx=> ?_) ?_
        ·intro v18 h18 K hK
         obtain rfl:=h18
         go_simp
         exact hK _ _ ⟨undef,rfl,rfl,Ext.refl _⟩
        refine StepsL.cons (ps:= [(18,some 135),(19,some 136)]) rfl (by kernel_rfl) (fun wi hx=> ?_) ?_
        ·intro v18 h18 v19 h19 K hK
         obtain rfl:=h18
         obtain rfl:=h19
         go_simp
         exact hK _ _ ⟨undef,rfl,rfl,Ext.refl _⟩
        refine StepsL.cons (ps:= [(18,some 135),(20,some 137)]) rfl (by kernel_rfl) (fun wi hx=> ?_) ?_
        ·intro v18 h18 v20 h20 K hK
         obtain rfl:=h18
         obtain rfl:=h20
         go_simp
         exact hK _ _ ⟨undef,rfl,rfl,Ext.refl _⟩
        refine StepsL.cons (ps:= [(18,some 135),(21,some 138)]) rfl (by kernel_rfl) (fun wi hx=> ?_) ?_
        ·intro v18 h18 v21 h21 K hK
         obtain rfl:=h18
         obtain rfl:=h21
         go_simp
         exact hK _ _ ⟨undef,rfl,rfl,Ext.refl _⟩
        refine StepsL.cons (ps:= [(15,some 132),(18,some 135),(22,some 139)]) rfl (by kernel_rfl) (fun wi hx=> ?_) ?_
        ·intro v15 h15 v18 h18 v22 h22 K hK
         obtain rfl:=h15
         obtain rfl:=h18
         obtain rfl:=h22
         go_simp
         exact hK _ _ ⟨undef,rfl,rfl,Ext.refl _⟩
        refine StepsL.cons (ps:= [(15,some 132),(23,some 140)]) rfl (by kernel_rfl) (fun wi hx=> ?_) ?_
        ·intro v15 h15 v23 h23 K hK
         obtain rfl:=h15
         obtain rfl:=h23
         go_simp
         exact hK _ _ ⟨undef,rfl,rfl,Ext.refl _⟩
        refine StepsL.cons (ps:= [(24,some 141)]) rfl (by kernel_rfl) (fun wi hx=> ?_) ?_
        ·intro v24 h24 K hK
         obtain rfl:=h24
         go_simp
         exact hK _ _ ⟨undef,rfl,rfl,Ext.refl _⟩
        refine StepsL.cons (ps:= [(24,some 141),(25,some 142)]) rfl (by kernel_rfl) (fun wi hx=> ?_) ?_
        ·intro v24 h24 v25 h25 K hK
         obtain rfl:=h24
         obtain rfl:=h25
         go_simp
         exact hK _ _ ⟨undef,rfl,rfl,Ext.refl _⟩
        refine StepsL.cons (ps:= [(24,some 141)]) rfl (by kernel_rfl) (fun wi hx=> ?_) ?_
        ·intro v24 h24 K hK
         obtain rfl:=h24
         go_simp
         exact hK _ _ ⟨undef,rfl,rfl,Ext.refl _⟩
        refine StepsL.cons (ps:= [(24,some 141),(27,some 144)]) rfl (by kernel_rfl) (fun wi hx=> ?_) ?_
        ·intro v24 h24 v27 h27 K hK
         obtain rfl:=h24
         obtain rfl:=h27
         go_simp
         exact hK _ _ ⟨undef,rfl,rfl,Ext.refl _⟩
        refine StepsL.cons (ps:= [(24,some 141),(28,some 145)]) rfl (by kernel_rfl) (fun wi hx=> ?_) ?_
        ·intro v24 h24 v28 h28 K hK
         obtain rfl:=h24
         obtain rfl:=h28
         go_simp
         exact hK _ _ ⟨undef,rfl,rfl,Ext.refl _⟩
        refine StepsL.cons (ps:= [(24,some 141),(29,some 146)]) rfl (by kernel_rfl) (fun wi hx=> ?_) ?_
        ·intro v24 h24 v29 h29 K hK
         obtain rfl:=h24
         obtain rfl:=h29
         go_simp
         exact hK _ _ ⟨undef,rfl,rfl,Ext.refl _⟩
        refine StepsL.cons (ps:= [(24,some 141),(26,some 143),(30,some 147)]) rfl (by kernel_rfl) (fun wi hx=> ?_) ?_
        ·intro v24 h24 v26 h26 v30 h30 K hK
         obtain rfl:=h24
         obtain rfl:=h26
         obtain rfl:=h30
         go_simp
         exact hK _ _ ⟨undef,rfl,rfl,Ext.refl _⟩
        refine StepsL.cons (ps:= [(24,some 141),(31,some 148)]) rfl (by kernel_rfl) (fun wi hx=> ?_) ?_
        ·intro v24 h24 v31 h31 K hK
         obtain rfl:=h24
         obtain rfl:=h31
         go_simp
         exact hK _ _ ⟨undef,rfl,rfl,Ext.refl _⟩
        refine StepsL.cons (ps:= [(24,some 141)]) rfl (by kernel_rfl) (fun wi hx=> ?_) ?_
        ·intro v24 h24 K hK
         obtain rfl:=h24
         go_simp
         exact hK _ _ ⟨undef,rfl,rfl,Ext.refl _⟩
        refine StepsL.cons (ps:= [(24,some 141),(32,some 149),(33,some 150)]) rfl (by kernel_rfl) (fun wi hx=> ?_) ?_
        ·intro v24 h24 v32 h32 v33 h33 K hK
         obtain rfl:=h24
         obtain rfl:=h32
         obtain rfl:=h33
         go_simp
         exact hK _ _ ⟨undef,rfl,rfl,Ext.refl _⟩
        refine StepsL.cons (ps:= [(15,some 132),(24,some 141),(34,some 151)]) rfl (by kernel_rfl) (fun wi hx=> ?_) ?_
        ·intro v15 h15 v24 h24 v34 h34 K hK
         obtain rfl:=h15
         obtain rfl:=h24
         obtain rfl:=h34
         go_simp
         exact hK _ _ ⟨undef,rfl,rfl,Ext.refl _⟩
        refine StepsL.cons (ps:= [(5,some 122),(15,some 132),(35,some 152)]) rfl (by kernel_rfl) (fun wi hx=> ?_) ?_
        ·intro v5 h5 v15 h15 v35 h35 K hK
         obtain rfl:=h5
         obtain rfl:=h15
         obtain rfl:=h35
         go_simp
         exact hK _ _ ⟨.bool true,rfl,rfl,Ext.refl _⟩
        refine StepsL.cons (ps:= [(5,some 122),(36,some 153)]) rfl (by kernel_rfl) (fun wi hx=> ?_) ?_
        ·intro v5 h5 v36 h36 K hK
         obtain rfl:=h5
         obtain rfl:=h36
         go_simp
         exact hK _ _ ⟨.bool true,rfl,rfl,Ext.refl _⟩
        refine StepsL.cons (ps:= [(37,some 154)]) rfl (by kernel_rfl) (fun wi hx=> ?_) StepsL.nil
        ·intro v37 h37 K hK
         obtain rfl:=h37
         go_simp
         exact hK _ _ ⟨.bool true,rfl,rfl,Ext.refl _⟩
       case fin=>
        intro wi hx v0 h0 v1 h1 v2 h2 v3 h3 v4 h4 v5 h5 v6 h6 v7 h7 v8 h8 v9 h9 v10 h10 v11 h11 v12 h12 v13 h13 v14 h14 v15 h15 v16 h16 v17 h17 v18 h18 v19 h19 v20 h20 v21 h21 v22 h22 v23 h23 v24 h24 v25 h25 v26 h26 v27 h27 v28 h28 v29 h29 v30 h30 v31 h31 v32 h32 v33 h33 v34 h34 v35 h35 v36 h36 v37 h37 v38 h38
        obtain rfl:=h0
        obtain rfl:=h1
        obtain rfl:=h2
        obtain rfl:=h3
        obtain rfl:=h4
        obtain rfl:=h5
        obtain rfl:=h6
        obtain rfl:=h7
        obtain rfl:=h8
        obtain rfl:=h9
        obtain rfl:=h10
        obtain rfl:=h11
        obtain rfl:=h12
        obtain rfl:=h13
        obtain rfl:=h14
        obtain rfl:=h15
        obtain rfl:=h16
        obtain rfl:=h17
        obtain rfl:=h18
        obtain rfl:=h19
        obtain rfl:=h20
        obtain rfl:=h21
        obtain rfl:=h22
        obtain rfl:=h23
        obtain rfl:=h24
        obtain rfl:=h25
        obtain rfl:=h26
        obtain rfl:=h27
        obtain rfl:=h28
        obtain rfl:=h29
        obtain rfl:=h30
        obtain rfl:=h31
        obtain rfl:=h32
        obtain rfl:=h33
        obtain rfl:=h34
        obtain rfl:=h35
        obtain rfl:=h36
        obtain rfl:=h37
        obtain rfl:=h38
        refine wpAny_done (by kernel_rfl) ?_ _
        try simp only[Act.put,List.setIfInBounds_toArray,List.set_cons_zero,List.set_cons_succ]
        have hX:Ext wr wi:=hx.of_drew
        have XZ:Ext w wi:=hX1.out.trans (M6.out.ext.trans hX)
        go_wp2
        go_ret
        exact⟨rfl,XZ⟩
      ·skip
       have hm1:m'=j+1:=by have h:=hl2'.out;have h2:=hl2.out;omega
       subst hm1
       rw[hl2.out]at hw2
       obtain⟨bb2,off2,z0,z1,z2,z3,rfl,hv2,hb2,u0,u1,u2,u3⟩:=visit_at (M6.out.sl (i:=1) rfl) (show j<j+1 by omega)
       rw[hw2]at hv2
       injection hv2 with hv2
       injection hv2 with e0 hv2
       injection hv2 with e1' hv2
       injection hv2 with e2 e3
       subst e0 e1' e2 e3
       clear hw2
       have i1:(0:Int)≤(j:Int):=by omega
       have i2:(j:Int)<(j:Int)+1:=by omega
       have i5:((j+1:Nat):Int)-1=(j:Int):=by omega
       have t5:decide ((0:Int)<(j:Int)+1)=true:=by first|(simp;done)|(simp;omega)
       go_wp2
       refine region_lin (gl [gEq (.agg #[.int .i64 (P'),.slice q5 n' c5,.slice (some ⟨bb2,off2,none⟩) (j+1) c6]),gEq (.bool true),gEq (.bool true),gEq (.bool true),gEq (.bool true),gEq (.bool true),gEq (.int .i64 2),gEq (.bool false),gEq (.bool false),gEq (undef),gEq (undef),gEq (undef),gEq (undef),gEq (undef),gEq (.bool false),gEq (.bool false),gEq (.int .i64 2),gEq (.bool true),gEq (.bool true),gEq (.pointer (some ⟨X,2,none⟩)),gEq (.slice (some ⟨bb2,off2,none⟩) (j+1) c6),gEq (.int .i64 ((j:Int)+1)),gEq (.bool true),gEq (.bool true),gEq (.bool true),gEq (.pointer (some ⟨X,2,none⟩)),gEq (.slice (some ⟨bb2,off2,none⟩) (j+1) c6),gEq (.pointer (some ⟨X,2,none⟩)),gEq (.slice (some ⟨bb2,off2,none⟩) (j+1) c6),gEq (.int .i64 ((j:Int)+1)),gEq (.int .i64 ((j:Int))),gEq (.pointer (some ⟨bb2,off2+j*4,none⟩)),gEq (.agg #[.int .i64 b0,.int .i64 b1,.int .i64 b2,.int .i64 b3]),gEq (.agg #[.int .i64 b0,.int .i64 b1,.int .i64 b2,.int .i64 b3]),gEq (.bool true),gEq (.bool true),gEq (.bool true),gEq (.bool true),gEq (.bool true)]) 39 (by kernel_rfl) rfl (by kernel_rfl) (by kernel_rfl) (by kernel_rfl) (gl_mono (gl_cons (gEq_mono _) (gl_cons (gEq_mono _) (gl_cons (gEq_mono _) (gl_cons (gEq_mono _) (gl_cons (gEq_mono _) (gl_cons (gEq_mono _) (gl_cons (gEq_mono _) (gl_cons (gEq_mono _) (gl_cons (gEq_mono _) (gl_cons (gEq_mono _) (gl_cons (gEq_mono _) (gl_cons (gEq_mono _) (gl_cons (gEq_mono _) (gl_cons (gEq_mono _) (gl_cons (gEq_mono _) (gl_cons (gEq_mono _) (gl_cons (gEq_mono _) (gl_cons (gEq_mono _) (gl_cons (gEq_mono _) (gl_cons (gEq_mono _) (gl_cons (gEq_mono _) (gl_cons (gEq_mono _) (gl_cons (gEq_mono _) (gl_cons (gEq_mono _) (gl_cons (gEq_mono _) (gl_cons (gEq_mono _) (gl_cons (gEq_mono _) (gl_cons (gEq_mono _) (gl_cons (gEq_mono _) (gl_cons (gEq_mono _) (gl_cons (gEq_mono _) (gl_cons (gEq_mono _) (gl_cons (gEq_mono _) (gl_cons (gEq_mono _) (gl_cons (gEq_mono _) (gl_cons (gEq_mono _) (gl_cons (gEq_mono _) (gl_cons (gEq_mono _) (gl_cons (gEq_mono _) (gl_nil))))))))))))))))))))))))))))))))))))))))) (k:=39) (by kernel_rfl) (by decide) (ls:= [(0,some 117),(1,some 118),(2,some 119),(3,some 120),(4,some 121),(5,some 122),(6,some 123),(7,some 124),(8,some 125),(9,some 126),(10,some 127),(11,some 128),(12,some 129),(13,some 130),(14,some 131),(15,some 132),(16,some 133),(17,some 134),(18,some 135),(19,some 136),(20,some 137),(21,some 138),(22,some 139),(23,some 140),(24,some 141),(25,some 142),(26,some 143),(27,some 144),(28,some 145),(29,some 146),(30,some 147),(31,some 148),(32,some 149),(33,some 150),(34,some 151),(35,some 152),(36,some 153),(37,some 154),(38,some 2)]) (by kernel_rfl) (ir:= [0,1,2,3,4,5,6,7,8,9,10,11,12,13,14,15,16,17,18,19,20,21,22,23,24,25,26,27,28,29,30,31,32,33,34,35,36,37,38]) (by kernel_rfl) ?steps (tl:=#[true,true,true,true,true,true,true,true,true,true,true,true,true,true,true,true,true,true,true,true,true,true,true,true,true,true,true,true,true,true,true,true,true,true,true,true,true,true,true]) (by kernel_rfl) ?fin
       case steps=>
        refine StepsL.cons (ps:= []) rfl (by kernel_rfl) (fun wi hx=> ?_) ?_
        ·intro K hK
         have hX:Ext wr wi:=by(repeat' (first|exact Ext.refl _|(with_reducible assumption)|(with_reducible refine Ext.alloc ?_ _)|(with_reducible refine Ext.setCell ?_ (by first|exact Nat.le_refl _|(dsimp only;omega)|(simp;done)|(simp;omega)) _)|(with_reducible refine Ext.drew ?_)|(with_reducible refine Ext.drewN ?_ _)|(refine Ext.trans ?_ (by with_reducible assumption))))
         obtain⟨cl0,cl1,cl2⟩:=((B0.out.ext hX)).tri
         go_simp
         exact hK _ _ ⟨.agg #[.int .i64 (P'),.slice q5 n' c5,.slice (some ⟨bb2,off2,none⟩) (j+1) c6],rfl,rfl,Ext.refl _⟩
        refine StepsL.cons (ps:= [(0,some 117)]) rfl (by kernel_rfl) (fun wi hx=> ?_) ?_
        ·intro v0 h0 K hK
         obtain rfl:=h0
         go_simp
         refine(HVx.out _ (by(repeat' (first|exact Ext.refl _|(with_reducible assumption)|(with_reducible refine Ext.alloc ?_ _)|(with_reducible refine Ext.setCell ?_ (by first|exact Nat.le_refl _|(dsimp only;omega)|(simp;done)|(simp;omega)) _)|(with_reducible refine Ext.drew ?_)|(with_reducible refine Ext.drewN ?_ _)|(refine Ext.trans ?_ (by with_reducible assumption)))))).mono ?_
         rintro e w5 ⟨rfl,hx5⟩
         go_simp
         exact hK _ _ ⟨.bool true,rfl,rfl,hx5⟩
        refine StepsL.cons (ps:= [(1,some 118)]) rfl (by kernel_rfl) (fun wi hx=> ?_) ?_
        ·intro v1 h1 K hK
         obtain rfl:=h1
         go_simp
         exact hK _ _ ⟨.bool true,rfl,rfl,Ext.refl _⟩
        refine StepsL.cons (ps:= [(2,some 119)]) rfl (by kernel_rfl) (fun wi hx=> ?_) ?_
        ·intro v2 h2 K hK
         obtain rfl:=h2
         go_simp
         exact hK _ _ ⟨.bool true,rfl,rfl,Ext.refl _⟩
        refine StepsL.cons (ps:= [(2,some 119),(3,some 120)]) rfl (by kernel_rfl) (fun wi hx=> ?_) ?_
        ·intro v2 h2 v3 h3 K hK
         obtain rfl:=h2
         obtain rfl:=h3
         go_simp
         exact hK _ _ ⟨.bool true,rfl,rfl,Ext.refl _⟩
        refine StepsL.cons (ps:= [(4,some 121)]) rfl (by kernel_rfl) (fun wi hx=> ?_) ?_
        ·intro v4 h4 K hK
         obtain rfl:=h4
         go_simp
         exact hK _ _ ⟨.bool true,rfl,rfl,Ext.refl _⟩
        refine StepsL.cons (ps:= [(5,some 122)]) rfl (by kernel_rfl) (fun wi hx=> ?_) ?_
        ·intro v5 h5 K hK
         obtain rfl:=h5
         go_simp
         exact hK _ _ ⟨.int .i64 2,rfl,rfl,Ext.refl _⟩
        refine StepsL.cons (ps:= [(5,some 122),(6,some 123)]) rfl (by kernel_rfl) (fun wi hx=> ?_) ?_
        ·intro v5 h5 v6 h6 K hK
         obtain rfl:=h5
         obtain rfl:=h6
         go_simp
         exact hK _ _ ⟨.bool false,rfl,rfl,Ext.refl _⟩
        refine StepsL.cons (ps:= [(5,some 122),(7,some 124)]) rfl (by kernel_rfl) (fun wi hx=> ?_) ?_
        ·intro v5 h5 v7 h7 K hK
         obtain rfl:=h5
         obtain rfl:=h7
         go_simp
         exact hK _ _ ⟨.bool false,rfl,rfl,Ext.refl _⟩
        refine StepsL.cons (ps:= [(8,some 125)]) rfl (by kernel_rfl) (fun wi hx=> ?_) ?_
        ·intro v8 h8 K hK
         obtain rfl:=h8
         go_simp
         exact hK _ _ ⟨undef,rfl,rfl,Ext.refl _⟩
        refine StepsL.cons (ps:= [(8,some 125),(9,some 126)]) rfl (by kernel_rfl) (fun wi hx=> ?_) ?_
        ·intro v8 h8 v9 h9 K hK
         obtain rfl:=h8
         obtain rfl:=h9
         go_simp
         exact hK _ _ ⟨undef,rfl,rfl,Ext.refl _⟩
        refine StepsL.cons (ps:= [(8,some 125)]) rfl (by kernel_rfl) (fun wi hx=> ?_) ?_
        ·intro v8 h8 K hK
         obtain rfl:=h8
         go_simp
         exact hK _ _ ⟨undef,rfl,rfl,Ext.refl _⟩
        refine StepsL.cons (ps:= [(8,some 125),(11,some 128)]) rfl (by kernel_rfl) (fun wi hx=> ?_) ?_
        ·intro v8 h8 v11 h11 K hK
         obtain rfl:=h8
         obtain rfl:=h11
         go_simp
         exact hK _ _ ⟨undef,rfl,rfl,Ext.refl _⟩
        refine StepsL.cons (ps:= [(8,some 125),(10,some 127),(12,some 129)]) rfl (by kernel_rfl) (fun wi hx=> ?_) ?_
        ·intro v8 h8 v10 h10 v12 h12 K hK
         obtain rfl:=h8
         obtain rfl:=h10
         obtain rfl:=h12
         go_simp
         exact hK _ _ ⟨undef,rfl,rfl,Ext.refl _⟩
        refine StepsL.cons (ps:= [(5,some 122),(8,some 125),(13,some 130)]) rfl (by kernel_rfl) (fun wi hx=> ?_) ?_
        ·intro v5 h5 v8 h8 v13 h13 K hK
         obtain rfl:=h5
         obtain rfl:=h8
         obtain rfl:=h13
         go_simp
         exact hK _ _ ⟨.bool false,rfl,rfl,Ext.refl _⟩
        refine StepsL.cons (ps:= [(5,some 122),(14,some 131)]) rfl (by kernel_rfl) (fun wi hx=> ?_) ?_
        ·intro v5 h5 v14 h14 K hK
         obtain rfl:=h5
         obtain rfl:=h14
         go_simp
         exact hK _ _ ⟨.bool false,rfl,rfl,Ext.refl _⟩
        refine StepsL.cons (ps:= [(15,some 132)]) rfl (by kernel_rfl) (fun wi hx=> ?_) ?_
        ·intro v15 h15 K hK
         obtain rfl:=h15
         go_simp
         exact hK _ _ ⟨.int .i64 2,rfl,rfl,Ext.refl _⟩
        refine StepsL.cons (ps:= [(15,some 132),(16,some 133)]) rfl (by kernel_rfl) (fun wi hx=> ?_) ?_
        ·intro v15 h15 v16 h16 K hK
         obtain rfl:=h15
         obtain rfl:=h16
         go_simp
         exact hK _ _ ⟨.bool true,rfl,rfl,Ext.refl _⟩
        refine StepsL.cons (ps:= [(15,some 132),(17,some 134)]) rfl (by kernel_rfl) (fun wi hx=> ?_) ?_
        ·intro v15 h15 v17 h17 K hK
         obtain rfl:=h15
         obtain rfl:=h17
         go_simp
         exact hK _ _ ⟨.bool true,rfl,rfl,Ext.refl _⟩
        refine StepsL.cons (ps:= [(18,some 135)]) rfl (by kernel_rfl) (fun wi hx=> ?_) ?_
        ·intro v18 h18 K hK
         obtain rfl:=h18
         go_simp
         exact hK _ _ ⟨.pointer (some ⟨X,2,none⟩),rfl,rfl,Ext.refl _⟩
        refine StepsL.cons (ps:= [(18,some 135),(19,some 136)]) rfl (by kernel_rfl) (fun wi hx=> ?_) ?_
        ·intro v18 h18 v19 h19 K hK
         obtain rfl:=h18
         obtain rfl:=h19
         have hX:Ext wr wi:=by(repeat' (first|exact Ext.refl _|(with_reducible assumption)|(with_reducible refine Ext.alloc ?_ _)|(with_reducible refine Ext.setCell ?_ (by first|exact Nat.le_refl _|(dsimp only;omega)|(simp;done)|(simp;omega)) _)|(with_reducible refine Ext.drew ?_)|(with_reducible refine Ext.drewN ?_ _)|(refine Ext.trans ?_ (by with_reducible assumption))))
         have cl0:wi.cell? ⟨X,2,none⟩=some (.slice (some ⟨bb2,off2,none⟩) (j+1) c6):=(B0.out.ext hX).cell 2
         go_simp
         exact hK _ _ ⟨.slice (some ⟨bb2,off2,none⟩) (j+1) c6,rfl,rfl,Ext.refl _⟩
        refine StepsL.cons (ps:= [(18,some 135),(20,some 137)]) rfl (by kernel_rfl) (fun wi hx=> ?_) ?_
        ·intro v18 h18 v20 h20 K hK
         obtain rfl:=h18
         obtain rfl:=h20
         go_simp
         exact hK _ _ ⟨.int .i64 ((j:Int)+1),rfl,rfl,Ext.refl _⟩
        refine StepsL.cons (ps:= [(18,some 135),(21,some 138)]) rfl (by kernel_rfl) (fun wi hx=> ?_) ?_
        ·intro v18 h18 v21 h21 K hK
         obtain rfl:=h18
         obtain rfl:=h21
         go_simp
         exact hK _ _ ⟨.bool true,rfl,rfl,Ext.refl _⟩
        refine StepsL.cons (ps:= [(15,some 132),(18,some 135),(22,some 139)]) rfl (by kernel_rfl) (fun wi hx=> ?_) ?_
        ·intro v15 h15 v18 h18 v22 h22 K hK
         obtain rfl:=h15
         obtain rfl:=h18
         obtain rfl:=h22
         go_simp
         exact hK _ _ ⟨.bool true,rfl,rfl,Ext.refl _⟩
        refine StepsL.cons (ps:= [(15,some 132),(23,some 140)]) rfl (by kernel_rfl) (fun wi hx=> ?_) ?_
        ·intro v15 h15 v23 h23 K hK
         obtain rfl:=h15
         obtain rfl:=h23
         go_simp
         exact hK _ _ ⟨.bool true,rfl,rfl,Ext.refl _⟩
        refine StepsL.cons (ps:= [(24,some 141)]) rfl (by kernel_rfl) (fun wi hx=> ?_) ?_
        ·intro v24 h24 K hK
         obtain rfl:=h24
         go_simp
         exact hK _ _ ⟨.pointer (some ⟨X,2,none⟩),rfl,rfl,Ext.refl _⟩
        refine StepsL.cons (ps:= [(24,some 141),(25,some 142)]) rfl (by kernel_rfl) (fun wi hx=> ?_) ?_
        ·intro v24 h24 v25 h25 K hK
         obtain rfl:=h24
         obtain rfl:=h25
         have hX:Ext wr wi:=by(repeat' (first|exact Ext.refl _|(with_reducible assumption)|(with_reducible refine Ext.alloc ?_ _)|(with_reducible refine Ext.setCell ?_ (by first|exact Nat.le_refl _|(dsimp only;omega)|(simp;done)|(simp;omega)) _)|(with_reducible refine Ext.drew ?_)|(with_reducible refine Ext.drewN ?_ _)|(refine Ext.trans ?_ (by with_reducible assumption))))
         have cl0:wi.cell? ⟨X,2,none⟩=some (.slice (some ⟨bb2,off2,none⟩) (j+1) c6):=(B0.out.ext hX).cell 2
         go_simp
         exact hK _ _ ⟨.slice (some ⟨bb2,off2,none⟩) (j+1) c6,rfl,rfl,Ext.refl _⟩
        refine StepsL.cons (ps:= [(24,some 141)]) rfl (by kernel_rfl) (fun wi hx=> ?_) ?_
        ·intro v24 h24 K hK
         obtain rfl:=h24
         go_simp
         exact hK _ _ ⟨.pointer (some ⟨X,2,none⟩),rfl,rfl,Ext.refl _⟩
        refine StepsL.cons (ps:= [(24,some 141),(27,some 144)]) rfl (by kernel_rfl) (fun wi hx=> ?_) ?_
        ·intro v24 h24 v27 h27 K hK
         obtain rfl:=h24
         obtain rfl:=h27
         have hX:Ext wr wi:=by(repeat' (first|exact Ext.refl _|(with_reducible assumption)|(with_reducible refine Ext.alloc ?_ _)|(with_reducible refine Ext.setCell ?_ (by first|exact Nat.le_refl _|(dsimp only;omega)|(simp;done)|(simp;omega)) _)|(with_reducible refine Ext.drew ?_)|(with_reducible refine Ext.drewN ?_ _)|(refine Ext.trans ?_ (by with_reducible assumption))))
         have cl0:wi.cell? ⟨X,2,none⟩=some (.slice (some ⟨bb2,off2,none⟩) (j+1) c6):=(B0.out.ext hX).cell 2
         go_simp
         exact hK _ _ ⟨.slice (some ⟨bb2,off2,none⟩) (j+1) c6,rfl,rfl,Ext.refl _⟩
        refine StepsL.cons (ps:= [(24,some 141),(28,some 145)]) rfl (by kernel_rfl) (fun wi hx=> ?_) ?_
        ·intro v24 h24 v28 h28 K hK
         obtain rfl:=h24
         obtain rfl:=h28
         go_simp
         exact hK _ _ ⟨.int .i64 ((j:Int)+1),rfl,rfl,Ext.refl _⟩
        refine StepsL.cons (ps:= [(24,some 141),(29,some 146)]) rfl (by kernel_rfl) (fun wi hx=> ?_) ?_
        ·intro v24 h24 v29 h29 K hK
         obtain rfl:=h24
         obtain rfl:=h29
         have hw9:IntKind.i64.wrap (j:Int)=(j:Int):=IntWalk.i64_in _ (by omega)
         go_simp
         exact hK _ _ ⟨.int .i64 ((j:Int)),rfl,rfl,Ext.refl _⟩
        refine StepsL.cons (ps:= [(24,some 141),(26,some 143),(30,some 147)]) rfl (by kernel_rfl) (fun wi hx=> ?_) ?_
        ·intro v24 h24 v26 h26 v30 h30 K hK
         obtain rfl:=h24
         obtain rfl:=h26
         obtain rfl:=h30
         go_simp
         exact hK _ _ ⟨.pointer (some ⟨bb2,off2+j*4,none⟩),rfl,rfl,Ext.refl _⟩
        refine StepsL.cons (ps:= [(24,some 141),(31,some 148)]) rfl (by kernel_rfl) (fun wi hx=> ?_) ?_
        ·intro v24 h24 v31 h31 K hK
         obtain rfl:=h24
         obtain rfl:=h31
         have hX:Ext wr wi:=by(repeat' (first|exact Ext.refl _|(with_reducible assumption)|(with_reducible refine Ext.alloc ?_ _)|(with_reducible refine Ext.setCell ?_ (by first|exact Nat.le_refl _|(dsimp only;omega)|(simp;done)|(simp;omega)) _)|(with_reducible refine Ext.drew ?_)|(with_reducible refine Ext.drewN ?_ _)|(refine Ext.trans ?_ (by with_reducible assumption))))
         have cl0:wi.cell? ⟨bb2,off2+j*4,none⟩=some (.int .i64 b0):=(hX.cells.1 _ _ hb2).trans u0
         have cl1:wi.cell? ⟨bb2,off2+j*4+1,none⟩=some (.int .i64 b1):=(hX.cells.1 _ _ hb2).trans u1
         have cl2:wi.cell? ⟨bb2,off2+j*4+2,none⟩=some (.int .i64 b2):=(hX.cells.1 _ _ hb2).trans u2
         have cl3:wi.cell? ⟨bb2,off2+j*4+3,none⟩=some (.int .i64 b3):=(hX.cells.1 _ _ hb2).trans u3
         go_simp
         exact hK _ _ ⟨.agg #[.int .i64 b0,.int .i64 b1,.int .i64 b2,.int .i64 b3],rfl,rfl,Ext.refl _⟩
        refine StepsL.cons (ps:= [(24,some 141)]) rfl (by kernel_rfl) (fun wi hx=> ?_) ?_
        ·intro v24 h24 K hK
         obtain rfl:=h24
         have hX:Ext wr wi:=by(repeat' (first|exact Ext.refl _|(with_reducible assumption)|(with_reducible refine Ext.alloc ?_ _)|(with_reducible refine Ext.setCell ?_ (by first|exact Nat.le_refl _|(dsimp only;omega)|(simp;done)|(simp;omega)) _)|(with_reducible refine Ext.drew ?_)|(with_reducible refine Ext.drewN ?_ _)|(refine Ext.trans ?_ (by with_reducible assumption))))
         have cl0:wi.cell? ⟨w1.heap.size+1,0,none⟩=some (.int .i64 b0):=(B2.out.ext hX).cell 0
         have cl1:wi.cell? ⟨w1.heap.size+1,1,none⟩=some (.int .i64 b1):=(B2.out.ext hX).cell 1
         have cl2:wi.cell? ⟨w1.heap.size+1,2,none⟩=some (.int .i64 b2):=(B2.out.ext hX).cell 2
         have cl3:wi.cell? ⟨w1.heap.size+1,3,none⟩=some (.int .i64 b3):=(B2.out.ext hX).cell 3
         go_simp
         exact hK _ _ ⟨.agg #[.int .i64 b0,.int .i64 b1,.int .i64 b2,.int .i64 b3],rfl,rfl,Ext.refl _⟩
        refine StepsL.cons (ps:= [(24,some 141),(32,some 149),(33,some 150)]) rfl (by kernel_rfl) (fun wi hx=> ?_) ?_
        ·intro v24 h24 v32 h32 v33 h33 K hK
         obtain rfl:=h24
         obtain rfl:=h32
         obtain rfl:=h33
         go_simp
         exact hK _ _ ⟨.bool true,rfl,rfl,Ext.refl _⟩
        refine StepsL.cons (ps:= [(15,some 132),(24,some 141),(34,some 151)]) rfl (by kernel_rfl) (fun wi hx=> ?_) ?_
        ·intro v15 h15 v24 h24 v34 h34 K hK
         obtain rfl:=h15
         obtain rfl:=h24
         obtain rfl:=h34
         go_simp
         exact hK _ _ ⟨.bool true,rfl,rfl,Ext.refl _⟩
        refine StepsL.cons (ps:= [(5,some 122),(15,some 132),(35,some 152)]) rfl (by kernel_rfl) (fun wi hx=> ?_) ?_
        ·intro v5 h5 v15 h15 v35 h35 K hK
         obtain rfl:=h5
         obtain rfl:=h15
         obtain rfl:=h35
         go_simp
         exact hK _ _ ⟨.bool true,rfl,rfl,Ext.refl _⟩
        refine StepsL.cons (ps:= [(5,some 122),(36,some 153)]) rfl (by kernel_rfl) (fun wi hx=> ?_) ?_
        ·intro v5 h5 v36 h36 K hK
         obtain rfl:=h5
         obtain rfl:=h36
         go_simp
         exact hK _ _ ⟨.bool true,rfl,rfl,Ext.refl _⟩
        refine StepsL.cons (ps:= [(37,some 154)]) rfl (by kernel_rfl) (fun wi hx=> ?_) StepsL.nil
        ·intro v37 h37 K hK
         obtain rfl:=h37
         go_simp
         exact hK _ _ ⟨.bool true,rfl,rfl,Ext.refl _⟩
       case fin=>
        intro wi hx v0 h0 v1 h1 v2 h2 v3 h3 v4 h4 v5 h5 v6 h6 v7 h7 v8 h8 v9 h9 v10 h10 v11 h11 v12 h12 v13 h13 v14 h14 v15 h15 v16 h16 v17 h17 v18 h18 v19 h19 v20 h20 v21 h21 v22 h22 v23 h23 v24 h24 v25 h25 v26 h26 v27 h27 v28 h28 v29 h29 v30 h30 v31 h31 v32 h32 v33 h33 v34 h34 v35 h35 v36 h36 v37 h37 v38 h38
        obtain rfl:=h0
        obtain rfl:=h1
        obtain rfl:=h2
        obtain rfl:=h3
        obtain rfl:=h4
        obtain rfl:=h5
        obtain rfl:=h6
        obtain rfl:=h7
        obtain rfl:=h8
        obtain rfl:=h9
        obtain rfl:=h10
        obtain rfl:=h11
        obtain rfl:=h12
        obtain rfl:=h13
        obtain rfl:=h14
        obtain rfl:=h15
        obtain rfl:=h16
        obtain rfl:=h17
        obtain rfl:=h18
        obtain rfl:=h19
        obtain rfl:=h20
        obtain rfl:=h21
        obtain rfl:=h22
        obtain rfl:=h23
        obtain rfl:=h24
        obtain rfl:=h25
        obtain rfl:=h26
        obtain rfl:=h27
        obtain rfl:=h28
        obtain rfl:=h29
        obtain rfl:=h30
        obtain rfl:=h31
        obtain rfl:=h32
        obtain rfl:=h33
        obtain rfl:=h34
        obtain rfl:=h35
        obtain rfl:=h36
        obtain rfl:=h37
        obtain rfl:=h38
        refine wpAny_done (by kernel_rfl) ?_ _
        try simp only[Act.put,List.setIfInBounds_toArray,List.set_cons_zero,List.set_cons_succ]
        have hX:Ext wr wi:=hx.of_drew
        have XZ:Ext w wi:=hX1.out.trans (M6.out.ext.trans hX)
        go_wp2
        go_ret
        exact⟨rfl,XZ⟩
theorem walk_FnDeskAsk (W:World)(v:Value)(u:Unit)(hc:Code W v)(hE:Env W):Calls Tryd.prog 4 #[v] W fun e w'=>e= .returned (.bool true)∧Ext W w':=by
 have hD:=drawDeskAsk v W hc
 obtain⟨p0,n,cap,bs,rfl,h,hb⟩:=hc
 by_cases hn:(n:Int)≤1048576
 ·exact fnDeskAsk_o p0 n cap W hn (Lib.hid hE) hD
 ·exact fnDeskAsk_big p0 n cap W (by omega)
end Go.Proofs.YtndcnflchkfaeaaDoor
