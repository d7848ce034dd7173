/-
  A law's walk or frame (@packed).
-/
import Derived.Test.YtndcnflchkfaeaaDoorK10
import Derived.Test.YtndcnflchkfaeaaDoorK22
import Derived.Test.YtndcnflchkfaeaaDoorK28
import Derived.Test.YtndcnflchkfaeaaDoorK32
namespace Go.Proofs.YtndcnflchkfaeaaDoor
open Go.RowKit
set_option linter.unusedVariables false
set_option linter.unusedSimpArgs false
theorem RetRun.is2 {P:Int}{T W:List Visit4}{n m:Nat}{w w':World}{e:Ending}(h:RetRun ⟨P,T,W⟩ w e w')(hn:T.length=n)(hm:W.length=m):
  ∃qa ca qb cb,e= .returned (.agg #[.int .i64 P,.slice qa n ca,.slice qb m cb])∧Mem w w' [ownI w.heap.size TBk 4 qa n ca (T.flatMap visitCells),ownI w.heap.size TBk 4 qb m cb (W.flatMap visitCells)]:=by
 obtain⟨qa,na,ca,qb,nb,cb,he,h1,h2,hM⟩:=h
 have h1:na=T.length:=h1
 have h2:nb=W.length:=h2
 subst h1 h2 hn hm
 exact⟨qa,ca,qb,cb,he,hM⟩
set_option maxRecDepth 100000 in
set_option maxHeartbeats 8000000 in
theorem fnDeskRun_big (p:Option Addr)(n cap:Nat)(w:World)(h:(1048576:Int)<n):
  Calls Tryd.prog 8 #[.slice p n cap] w fun e w'=>e= .returned (.bool true)∧Ext w w':=by
 go_enter Tryd.func8,Tryd.ntmps8
 go_wp2
 go_ret
 exact⟨rfl,by(repeat' (first|exact Ext.refl _|(with_reducible assumption)|(with_reducible refine Ext.alloc ?_ _)|(with_reducible refine Ext.setCell ?_ (by first|exact Nat.le_refl _|(dsimp only;omega)|(simp;done)|(simp;omega)) _)|(with_reducible refine Ext.drew ?_)|(with_reducible refine Ext.drewN ?_ _)|(refine Ext.trans ?_ (by with_reducible assumption))))⟩
set_option maxRecDepth 100000 in
set_option maxHeartbeats 8000000 in
theorem fnDeskRun_o (p0:Option Addr)(n0 cap0:Nat)(w:World)(hn0:(n0:Int)≤1048576)(HE:Hid (Env w))
  (HD:Calls Tryd.prog 34 #[.slice p0 n0 cap0] w (DrewDeskList w)):
  Calls Tryd.prog 8 #[.slice p0 n0 cap0] w fun e w'=>e= .returned (.bool true)∧Ext w w':=by
 unfold DrewDeskList at HD
 have HD:=Lib.hid HD
 have hd0:decide ((1048576:Int)<(n0:Int))=false:=by simp;omega
 have hd1:decide (1048576<n0)=false:=by simp;omega
 go_enter Tryd.func8,Tryd.ntmps8
 go_wp2_with fail
 refine HD.out.mono ?_
 rintro e w1 ⟨P,T,W,q,c,q2,c2,bs,g3,c3,rfl,hT,hW,hb,ho,hv,hu,hx1⟩
 have hX1:=Lib.hid hx1
 clear HD hx1 hd0 hd1
 obtain⟨n,hn⟩: ∃x,T.length=x:=⟨_,rfl⟩
 obtain⟨m,hm⟩: ∃x,W.length=x:=⟨_,rfl⟩
 obtain⟨n3,hn3⟩: ∃x,bs.length=x:=⟨_,rfl⟩
 rw[hn]at hT ho⊢
 rw[hm]at hW hv⊢
 rw[hn3]at hb hu⊢
 have HS:=Lib.hid (Sl.own ho)
 have HS2:=Lib.hid (Sl.own hv)
 have HS3:=Lib.hid (Sl.own hu)
 clear ho hv hu
 obtain⟨⟨P',T',W'⟩,hA⟩: ∃x,deskRun ⟨P,T,W⟩ bs=x:=⟨_,rfl⟩
 obtain⟨n',hn'⟩: ∃x,T'.length=x:=⟨_,rfl⟩
 obtain⟨m',hm'⟩: ∃x,W'.length=x:=⟨_,rfl⟩
 obtain⟨V,hV⟩: ∃x,deskValid ⟨P,T,W⟩=x:=⟨_,rfl⟩
 have hcases:(V=false∧P'=0∧n'=0)∨(V=true∧deskValid ⟨P',T',W'⟩=true):=by
  cases V with
  |false=>
   rw[run_bad _ _ hV]at hA
   injection hA with h1 h2 h3
   exact .inl ⟨rfl,h1.symm,by rw[←hn',←h2];rfl⟩
  |true=>exact .inr ⟨rfl,by rw[←hA];exact deskRun_ok hV⟩
 have HAi:=Lib.hid fun(w':World) (hx:Ext w1 w')=>(implRun P q n c q2 m c2 (some ⟨g3,0,none⟩) n3 c3 T W bs w' (by omega) (HS.out.ext hx) (HS2.out.ext hx) (HS3.out.ext hx)).mono (fun e w'' h=>by rw[hA]at h;exact h.is2 hn' hm')
 have HAs:=Lib.hid fun(w':World) (hx:Ext w1 w')=>(specRun P q n c q2 m c2 (some ⟨g3,0,none⟩) n3 c3 T W bs w' (by omega) (HS.out.ext hx) (HS2.out.ext hx) (HS3.out.ext hx)).mono (fun e w'' h=>by rw[hA]at h;exact h.is2 hn' hm')
 have HV:=Lib.hid fun(w':World) (hx:Ext w1 w')=>specDv P q n c q2 m c2 T W w' (HS.out.ext hx) (HS2.out.ext hx)
 rw[hV]at HV
 have hn7:n'≤7:=by have:=(run_small ⟨P,T,W⟩ bs).1;rw[hA]at this;rw[←hn'];exact this
 have HC:=Lib.hid hcases
 have HA:=Lib.hid hA
 have HVV:=Lib.hid hV
 have hl:=Lib.hid hn
 have hl2:=Lib.hid hm
 have hl3:=Lib.hid hn3
 have hl':=Lib.hid hn'
 have hl2':=Lib.hid hm'
 clear hcases hA hn hm hn3 hn' hm' hV
 go_wp2_with fail
 refine(HAi.out _ (((Mem.start w1).blkNew TDk #[.int .i64 P,.slice q n c,.slice q2 m c2] (w1.heap.size) (by simp))).ext).mono ?_
 rintro e w2 ⟨q5,c5,q6,c6,rfl,hm2⟩
 have M2:=Lib.hid ((((Mem.start w1).blkNew TDk #[.int .i64 P,.slice q n c,.slice q2 m c2] (w1.heap.size) (by simp))).call2 hm2)
 have lt2_2:w1.heap.size<w2.heap.size:=(M2.out.lt (i:=2) rfl rfl).2
 clear hm2
 obtain⟨ca0,ca1,ca2⟩:=(M2.out.blk (i:=2) rfl).tri
 go_upto_region 5 with fail
 clear ca0 ca1 ca2
 have M3:=Lib.hid (show Mem w1 (w2.alloc (.cells #[.int .i64 P',.slice q5 n' c5,.slice q6 m' c6] TDk)) [blkI w1.heap.size (w2.heap.size) TDk #[.int .i64 P',.slice q5 n' c5,.slice q6 m' c6],ownI w1.heap.size TBk 4 (q5) (n') (c5) (T'.flatMap visitCells),ownI w1.heap.size TBk 4 (q6) (m') (c6) (W'.flatMap visitCells),blkI w1.heap.size (w1.heap.size) TDk #[.int .i64 P,.slice q n c,.slice q2 m c2]]from((M2.out).blkNew TDk #[.int .i64 P',.slice q5 n' c5,.slice q6 m' c6] (w2.heap.size) (by simp)))
 generalize (w2.alloc (.cells #[.int .i64 P',.slice q5 n' c5,.slice q6 m' c6] TDk))=w3 at M3⊢
 clear M2 lt2_2
 have lt3_0:w2.heap.size<w3.heap.size:=(M3.out.lt (i:=0) rfl rfl).2
 have lt3_3:w1.heap.size<w3.heap.size:=(M3.out.lt (i:=3) rfl rfl).2
 have hXz:w1.heap.size<w2.heap.size:=by
  have h1:=(M3.out.lt (i:=0) rfl rfl).1
  have h2:=M3.out.ne (i:=0) (j:=3) (by omega) rfl rfl rfl rfl
  omega
 obtain⟨X,hX⟩: ∃a,a=w2.heap.size:=⟨_,rfl⟩
 rw[←hX]at M3 hXz lt3_0⊢
 clear hX
 have BX:=Lib.hid (M3.out.blk (i:=0) rfl)
 have BD:=Lib.hid (M3.out.blk (i:=3) rfl)
 have MX:=Lib.hid M3.out.ext
 have S5:=Lib.hid (M3.out.sl (i:=1) rfl)
 have S6:=Lib.hid (M3.out.sl (i:=2) rfl)
 refine region_lin (gl [gEq (.agg #[.int .i64 (P'),.slice q5 n' c5,.slice q6 m' c6]),gEq (.agg #[.int .i64 P,.slice q n c,.slice q2 m c2]),gEq (.slice (some ⟨g3,0,none⟩) n3 c3),(fun v w'=> ∃qa ca qb cb,v= .agg #[.int .i64 P',.slice qa n' ca,.slice qb m' cb]∧Sl w' qa n' ca 4 (T'.flatMap visitCells)∧Sl w' qb m' cb 4 (W'.flatMap visitCells)),gEq (.bool true),gEq (.bool false)]) 6 (by kernel_rfl) rfl (by kernel_rfl) (by kernel_rfl) (by kernel_rfl) (gl_mono (gl_cons (gEq_mono _) (gl_cons (gEq_mono _) (gl_cons (gEq_mono _) (gl_cons (fun v w w' ⟨qa,ca,qb,cb,he,h1,h2⟩ hx=>⟨qa,ca,qb,cb,he,h1.ext hx,h2.ext hx⟩) (gl_cons (gEq_mono _) (gl_cons (gEq_mono _) (gl_nil)))))))) (k:=6) (by kernel_rfl) (by decide) (ls:= [(0,some 21),(1,some 22),(2,some 23),(3,some 24),(4,some 25),(5,some 26)]) (by kernel_rfl) (ir:= [0,1,2,3,4,5]) (by kernel_rfl) ?steps (tl:=#[true,true,true,true,true,true]) (by kernel_rfl) ?fin
 case steps=>
  refine StepsL.cons (ps:= []) rfl (by kernel_rfl) (fun wi hx=> ?_) ?_
  ·intro K hK
   have hX:Ext w3 wi:=by(repeat' (first|exact Ext.refl _|(with_reducible assumption)|(with_reducible refine Ext.alloc ?_ _)|(with_reducible refine Ext.setCell ?_ (by first|exact Nat.le_refl _|(dsimp only;omega)|(simp;done)|(simp;omega)) _)|(with_reducible refine Ext.drew ?_)|(with_reducible refine Ext.drewN ?_ _)|(refine Ext.trans ?_ (by with_reducible assumption))))
   obtain⟨cl0,cl1,cl2⟩:=((BX.out.ext hX)).tri
   go_simp
   exact hK _ _ ⟨.agg #[.int .i64 (P'),.slice q5 n' c5,.slice q6 m' c6],rfl,rfl,Ext.refl _⟩
  refine StepsL.cons (ps:= []) rfl (by kernel_rfl) (fun wi hx=> ?_) ?_
  ·intro K hK
   have hX:Ext w3 wi:=by(repeat' (first|exact Ext.refl _|(with_reducible assumption)|(with_reducible refine Ext.alloc ?_ _)|(with_reducible refine Ext.setCell ?_ (by first|exact Nat.le_refl _|(dsimp only;omega)|(simp;done)|(simp;omega)) _)|(with_reducible refine Ext.drew ?_)|(with_reducible refine Ext.drewN ?_ _)|(refine Ext.trans ?_ (by with_reducible assumption))))
   obtain⟨cl0,cl1,cl2⟩:=((BD.out.ext hX)).tri
   go_simp
   exact hK _ _ ⟨.agg #[.int .i64 P,.slice q n c,.slice q2 m c2],rfl,rfl,Ext.refl _⟩
  refine StepsL.cons (ps:= []) rfl (by kernel_rfl) (fun wi hx=> ?_) ?_
  ·intro K hK
   go_simp
   exact hK _ _ ⟨.slice (some ⟨g3,0,none⟩) n3 c3,rfl,rfl,Ext.refl _⟩
  refine StepsL.cons (ps:= [(1,some 22),(2,some 23)]) rfl (by kernel_rfl) (fun wi hx=> ?_) ?_
  ·intro v1 h1 v2 h2 K hK
   obtain rfl:=h1
   obtain rfl:=h2
   have hX:Ext w3 wi:=by(repeat' (first|exact Ext.refl _|(with_reducible assumption)|(with_reducible refine Ext.alloc ?_ _)|(with_reducible refine Ext.setCell ?_ (by first|exact Nat.le_refl _|(dsimp only;omega)|(simp;done)|(simp;omega)) _)|(with_reducible refine Ext.drew ?_)|(with_reducible refine Ext.drewN ?_ _)|(refine Ext.trans ?_ (by with_reducible assumption))))
   go_simp
   refine(HAs.out _ (MX.out.trans hX)).mono ?_
   rintro e w5 ⟨qa,ca,qb,cb,rfl,hm5⟩
   have s5a:=hm5.sl (i:=0) rfl
   have s5b:=hm5.sl (i:=1) rfl
   have hx5:=hm5.ext
   go_simp
   exact hK _ _ ⟨.agg #[.int .i64 P',.slice qa n' ca,.slice qb m' cb],rfl,⟨qa,ca,qb,cb,rfl,s5a,s5b⟩,hx5⟩
  refine StepsL.cons (ps:= [(0,some 21),(3,some 24)]) rfl (by kernel_rfl) (fun wi hx=> ?_) ?_
  ·intro v0 h0 v3 h3 K hK
   obtain rfl:=h0
   obtain⟨qa3,ca3,qb3,cb3,rfl,sa3,sb3⟩:=h3
   go_simp
   refine(sameDesk_any P' q5 n' c5 q6 m' c6 qa3 ca3 qb3 cb3 T' W' _ (S5.out.ext (by(repeat' (first|exact Ext.refl _|(with_reducible assumption)|(with_reducible refine Ext.alloc ?_ _)|(with_reducible refine Ext.setCell ?_ (by first|exact Nat.le_refl _|(dsimp only;omega)|(simp;done)|(simp;omega)) _)|(with_reducible refine Ext.drew ?_)|(with_reducible refine Ext.drewN ?_ _)|(refine Ext.trans ?_ (by with_reducible assumption)))))) (S6.out.ext (by(repeat' (first|exact Ext.refl _|(with_reducible assumption)|(with_reducible refine Ext.alloc ?_ _)|(with_reducible refine Ext.setCell ?_ (by first|exact Nat.le_refl _|(dsimp only;omega)|(simp;done)|(simp;omega)) _)|(with_reducible refine Ext.drew ?_)|(with_reducible refine Ext.drewN ?_ _)|(refine Ext.trans ?_ (by with_reducible assumption)))))) sa3 sb3).mono ?_
   rintro e w5 ⟨rfl,hx5⟩
   go_simp
   exact hK _ _ ⟨.bool true,rfl,rfl,hx5⟩
  refine StepsL.cons (ps:= [(4,some 25)]) rfl (by kernel_rfl) (fun wi hx=> ?_) StepsL.nil
  ·intro v4 h4 K hK
   obtain rfl:=h4
   go_simp
   exact hK _ _ ⟨.bool false,rfl,rfl,Ext.refl _⟩
 case fin=>
  intro wi hx v0 h0 v1 h1 v2 h2 v3 h3 v4 h4 v5 h5
  obtain rfl:=h0
  obtain rfl:=h1
  obtain rfl:=h2
  obtain⟨qa3,ca3,qb3,cb3,rfl,sa3,sb3⟩:=h3
  obtain rfl:=h4
  obtain rfl:=h5
  have hX9:Ext w3 wi:=hx.of_drew
  have M20:=Lib.hid (M3.out.adv hX9)
  clear hX9 hx M3 BX BD MX S5 S6 sa3 sb3 HAs lt3_0 lt3_3
  have lt20_0:X<wi.heap.size:=(M20.out.lt (i:=0) rfl rfl).2
  have lt20_3:w1.heap.size<wi.heap.size:=(M20.out.lt (i:=3) rfl rfl).2
  refine wpAny_done (by kernel_rfl) ?_ _
  try simp only[Act.put,List.setIfInBounds_toArray,List.set_cons_zero,List.set_cons_succ]
  obtain⟨ca0,ca1,ca2⟩:=(M20.out.blk (i:=3) rfl).tri
  go_wp2_with fail
  clear ca0 ca1 ca2
  refine(HV.out _ (M20.out).ext).mono ?_
  rintro e w21 ⟨rfl,hx21⟩
  have M21:=Lib.hid ((M20.out).adv hx21)
  clear M20
  clear lt20_0 lt20_3
  have lt21_0:X<w21.heap.size:=(M21.out.lt (i:=0) rfl rfl).2
  have lt21_3:w1.heap.size<w21.heap.size:=(M21.out.lt (i:=3) rfl rfl).2
  clear hx21
  rcases HC.out with⟨rfl,rfl,rfl⟩|⟨rfl,h1⟩
  ·skip
   obtain⟨ca0,ca1,ca2⟩:=(M21.out.blk (i:=0) rfl).tri
   go_wp2_with fail
   clear ca0 ca1 ca2
   refine(alive_any _ (HE.out.ext (hX1.out.trans (M21.out).ext))).mono ?_
   rintro e wz ⟨rfl,hxz⟩
   have XZ:Ext w wz:=hX1.out.trans ((M21.out).ext.trans hxz)
   go_wp2
   go_ret
   exact⟨rfl,XZ⟩
  ·skip
   have HK:=Lib.hid h1
   clear h1 HC HV HAi
   obtain⟨ca0,ca1,ca2⟩:=(M21.out.blk (i:=0) rfl).tri
   go_wp2
   go_loopw [6] (fun i wr=> ∃k:Nat,k≤n'∧i= .int .i64 (k:Int)∧Mem w1 wr [blkI w1.heap.size (X) TDk #[.int .i64 P',.slice q5 n' c5,.slice q6 m' c6],ownI w1.heap.size TBk 4 (q5) (n') (c5) (T'.flatMap visitCells),ownI w1.heap.size TBk 4 (q6) (m') (c6) (W'.flatMap visitCells),blkI w1.heap.size (w1.heap.size) TDk #[.int .i64 P,.slice q n c,.slice q2 m c2]]) (fun i _=>n'-(intOf i).toNat)
   case atStart=>exact⟨0,Nat.zero_le _,rfl,M21.out⟩
   case round=>
    clear M21 lt21_0 lt21_3 ca0 ca1 ca2
    obtain⟨k,hk,rfl,hM⟩:=hrel
    have M5:=Lib.hid hM
    clear hM
    by_cases hlt:k<n'
    ·skip
     have lt5_0:X<wr.heap.size:=(M5.out.lt (i:=0) rfl rfl).2
     have lt5_3:w1.heap.size<wr.heap.size:=(M5.out.lt (i:=3) rfl rfl).2
     obtain⟨bb,off,x0,x1,x2,x3,rfl,hv,hb',y0,y1,y2,y3⟩:=visit_at (M5.out.sl (i:=1) rfl) hlt
     have HVk:=Lib.hid hv
     have hpl:=place_in HK.out hv
     clear hv
     have HP:=Lib.hid fun(w':World) (hx:Ext wr w')=>implDp ⟨P',T',W'⟩ (some ⟨bb,off,none⟩) c5 q6 c6 x0 w' ⟨by have h:=(M5.out.sl (i:=1) rfl).ext hx;rw[hl'.out];exact h,by have h:=(M5.out.sl (i:=2) rfl).ext hx;rw[hl2'.out];exact h⟩
     dsimp only at HP
     rw[hl'.out,hl2'.out]at HP
     obtain⟨p,hp⟩: ∃x,deskPlace ⟨P',T',W'⟩ x0=x:=⟨_,rfl⟩
     rw[hp]at HP
     have hp0:0≤p:=by rw[←hp];exact hpl.1
     have hp1:p<P':=by rw[←hp];exact hpl.2
     have HPk:=Lib.hid hp
     clear hp hpl
     have i1:(0:Int)≤(k:Int):=by omega
     have i2:(k:Int)<(n':Int):=by omega
     have i3: ¬(n'≤k):=by omega
     have t1:decide (p<0)=false:=by simp;omega
     have t2:decide (P'≤p)=false:=by simp;omega
     have BX:=Lib.hid (M5.out.blk (i:=0) rfl)
     obtain⟨ca0,ca1,ca2⟩:=(M5.out.blk (i:=0) rfl).tri
     go_wp2
     clear ca0 ca1 ca2
     refine region_lin (gl [gEq (.agg #[.int .i64 (P'),.slice (some ⟨bb,off,none⟩) n' c5,.slice q6 m' c6]),gEq (.pointer (some ⟨X,1,none⟩)),gEq (.slice (some ⟨bb,off,none⟩) n' c5),gEq (.int .i64 ((k:Int))),gEq (.pointer (some ⟨bb,off+k*4,none⟩)),gEq (.pointer (some ⟨bb,off+k*4,none⟩)),gEq (.int .i64 x0),gEq (.int .i64 p),gEq (.int .i64 p)]) 9 (by kernel_rfl) rfl (by kernel_rfl) (by kernel_rfl) (by kernel_rfl) (gl_mono (gl_cons (gEq_mono _) (gl_cons (gEq_mono _) (gl_cons (gEq_mono _) (gl_cons (gEq_mono _) (gl_cons (gEq_mono _) (gl_cons (gEq_mono _) (gl_cons (gEq_mono _) (gl_cons (gEq_mono _) (gl_cons (gEq_mono _) (gl_nil))))))))))) (k:=9) (by kernel_rfl) (by decide) (ls:= [(0,some 49),(1,some 50),(2,some 51),(3,some 52),(4,some 53),(5,some 54),(6,some 55),(7,some 56),(8,some 7)]) (by kernel_rfl) (ir:= [0,1,2,3,4,5,6,7,8]) (by kernel_rfl) ?steps (tl:=#[true,true,true,true,true,true,true,true,true]) (by kernel_rfl) ?fin
     case steps=>
      refine StepsL.cons (ps:= []) rfl (by kernel_rfl) (fun wi hx=> ?_) ?_
      ·intro K hK
       have hX:Ext wr wi:=by(repeat' (first|exact Ext.refl _|(with_reducible assumption)|(with_reducible refine Ext.alloc ?_ _)|(with_reducible refine Ext.setCell ?_ (by first|exact Nat.le_refl _|(dsimp only;omega)|(simp;done)|(simp;omega)) _)|(with_reducible refine Ext.drew ?_)|(with_reducible refine Ext.drewN ?_ _)|(refine Ext.trans ?_ (by with_reducible assumption))))
       obtain⟨cl0,cl1,cl2⟩:=((BX.out.ext hX)).tri
       go_simp
       exact hK _ _ ⟨.agg #[.int .i64 (P'),.slice (some ⟨bb,off,none⟩) n' c5,.slice q6 m' c6],rfl,rfl,Ext.refl _⟩
      refine StepsL.cons (ps:= []) rfl (by kernel_rfl) (fun wi hx=> ?_) ?_
      ·intro K hK
       go_simp
       exact hK _ _ ⟨.pointer (some ⟨X,1,none⟩),rfl,rfl,Ext.refl _⟩
      refine StepsL.cons (ps:= [(1,some 50)]) rfl (by kernel_rfl) (fun wi hx=> ?_) ?_
      ·intro v1 h1 K hK
       obtain rfl:=h1
       have hX:Ext wr wi:=by(repeat' (first|exact Ext.refl _|(with_reducible assumption)|(with_reducible refine Ext.alloc ?_ _)|(with_reducible refine Ext.setCell ?_ (by first|exact Nat.le_refl _|(dsimp only;omega)|(simp;done)|(simp;omega)) _)|(with_reducible refine Ext.drew ?_)|(with_reducible refine Ext.drewN ?_ _)|(refine Ext.trans ?_ (by with_reducible assumption))))
       have cl0:wi.cell? ⟨X,1,none⟩=some (.slice (some ⟨bb,off,none⟩) n' c5):=(BX.out.ext hX).cell 1
       go_simp
       exact hK _ _ ⟨.slice (some ⟨bb,off,none⟩) n' c5,rfl,rfl,Ext.refl _⟩
      refine StepsL.cons (ps:= []) rfl (by kernel_rfl) (fun wi hx=> ?_) ?_
      ·intro K hK
       go_simp
       exact hK _ _ ⟨.int .i64 ((k:Int)),rfl,rfl,Ext.refl _⟩
      refine StepsL.cons (ps:= [(2,some 51),(3,some 52)]) rfl (by kernel_rfl) (fun wi hx=> ?_) ?_
      ·intro v2 h2 v3 h3 K hK
       obtain rfl:=h2
       obtain rfl:=h3
       go_simp
       exact hK _ _ ⟨.pointer (some ⟨bb,off+k*4,none⟩),rfl,rfl,Ext.refl _⟩
      refine StepsL.cons (ps:= [(4,some 53)]) rfl (by kernel_rfl) (fun wi hx=> ?_) ?_
      ·intro v4 h4 K hK
       obtain rfl:=h4
       go_simp
       exact hK _ _ ⟨.pointer (some ⟨bb,off+k*4,none⟩),rfl,rfl,Ext.refl _⟩
      refine StepsL.cons (ps:= [(5,some 54)]) rfl (by kernel_rfl) (fun wi hx=> ?_) ?_
      ·intro v5 h5 K hK
       obtain rfl:=h5
       have hX:Ext wr wi:=by(repeat' (first|exact Ext.refl _|(with_reducible assumption)|(with_reducible refine Ext.alloc ?_ _)|(with_reducible refine Ext.setCell ?_ (by first|exact Nat.le_refl _|(dsimp only;omega)|(simp;done)|(simp;omega)) _)|(with_reducible refine Ext.drew ?_)|(with_reducible refine Ext.drewN ?_ _)|(refine Ext.trans ?_ (by with_reducible assumption))))
       have cl0:wi.cell? ⟨bb,off+k*4,none⟩=some (.int .i64 x0):=(hX.cells.1 _ _ hb').trans y0
       go_simp
       exact hK _ _ ⟨.int .i64 x0,rfl,rfl,Ext.refl _⟩
      refine StepsL.cons (ps:= [(0,some 49),(6,some 55)]) rfl (by kernel_rfl) (fun wi hx=> ?_) ?_
      ·intro v0 h0 v6 h6 K hK
       obtain rfl:=h0
       obtain rfl:=h6
       have hX:Ext wr wi:=by(repeat' (first|exact Ext.refl _|(with_reducible assumption)|(with_reducible refine Ext.alloc ?_ _)|(with_reducible refine Ext.setCell ?_ (by first|exact Nat.le_refl _|(dsimp only;omega)|(simp;done)|(simp;omega)) _)|(with_reducible refine Ext.drew ?_)|(with_reducible refine Ext.drewN ?_ _)|(refine Ext.trans ?_ (by with_reducible assumption))))
       go_simp
       refine(HP.out _ hX).mono ?_
       rintro e w5 ⟨rfl,hx5⟩
       go_simp
       exact hK _ _ ⟨.int .i64 p,rfl,rfl,hx5⟩
      refine StepsL.cons (ps:= [(7,some 56)]) rfl (by kernel_rfl) (fun wi hx=> ?_) StepsL.nil
      ·intro v7 h7 K hK
       obtain rfl:=h7
       go_simp
       exact hK _ _ ⟨.int .i64 p,rfl,rfl,Ext.refl _⟩
     case fin=>
      intro wi hx v0 h0 v1 h1 v2 h2 v3 h3 v4 h4 v5 h5 v6 h6 v7 h7 v8 h8
      obtain rfl:=h0
      obtain rfl:=h1
      obtain rfl:=h2
      obtain rfl:=h3
      obtain rfl:=h4
      obtain rfl:=h5
      obtain rfl:=h6
      obtain rfl:=h7
      obtain rfl:=h8
      have hX9:Ext wr wi:=hx.of_drew
      have M6:=Lib.hid (M5.out.adv hX9)
      clear hX9 hx BX HP M5 y0 y1 y2 y3 hb' lt5_0 lt5_3
      have lt6_0:X<wi.heap.size:=(M6.out.lt (i:=0) rfl rfl).2
      have lt6_3:w1.heap.size<wi.heap.size:=(M6.out.lt (i:=3) rfl rfl).2
      refine wpAny_done (by kernel_rfl) ?_ _
      try simp only[Act.put,List.setIfInBounds_toArray,List.set_cons_zero,List.set_cons_succ]
      obtain⟨ca0,ca1,ca2⟩:=(M6.out.blk (i:=0) rfl).tri
      go_wp2
      go_loopw [8] (fun i wr=> ∃j:Nat,j≤k∧i= .int .i64 (j:Int)∧Mem w1 wr [blkI w1.heap.size (X) TDk #[.int .i64 P',.slice (some ⟨bb,off,none⟩) n' c5,.slice q6 m' c6],ownI w1.heap.size TBk 4 (some ⟨bb,off,none⟩) (n') (c5) (T'.flatMap visitCells),ownI w1.heap.size TBk 4 (q6) (m') (c6) (W'.flatMap visitCells),blkI w1.heap.size (w1.heap.size) TDk #[.int .i64 P,.slice q n c,.slice q2 m c2]]) (fun i _=>k-(intOf i).toNat)
      case atStart=>exact⟨0,Nat.zero_le _,rfl,M6.out⟩
      case round=>
       clear M6 lt6_0 lt6_3 ca0 ca1 ca2
       obtain⟨j,hj,rfl,hM⟩:=hrel
       have M7:=Lib.hid hM
       clear hM
       by_cases hjk:j<k
       ·skip
        have lt7_0:X<wr.heap.size:=(M7.out.lt (i:=0) rfl rfl).2
        have lt7_3:w1.heap.size<wr.heap.size:=(M7.out.lt (i:=3) rfl rfl).2
        obtain⟨cb,cof,x0',x1',x2',x3',e1,hv,hb1,y0,y1,y2,y3⟩:=visit_at (M7.out.sl (i:=1) rfl) hlt
        injection e1 with e1
        injection e1 with e1 e2
        subst e1 e2
        rw[HVk.out]at hv
        injection hv with hv
        injection hv with f0 hv
        injection hv with f1 hv
        injection hv with f2 f3
        subst f0 f1 f2 f3
        obtain⟨cb,cof,z0,z1,z2,z3,e1,hv2,hb2,u0,u1,u2,u3⟩:=visit_at (M7.out.sl (i:=1) rfl) (show j<n' by omega)
        injection e1 with e1
        injection e1 with e1 e2
        subst e1 e2
        obtain⟨ov,hov⟩: ∃x,overlap (x0,x1,x2,x3) (z0,z1,z2,z3)=x:=⟨_,rfl⟩
        have hfar:ov=true→(deskPlace ⟨P',T',W'⟩ z0==p)=false:=fun h=>by
         have h2:=place_far HK.out (show k≠j by omega) HVk.out hv2 (by rw[hov];exact h)
         rw[←HPk.out]
         simpa using h2
        have HO:=Lib.hid fun(w':World)=>implOv x0 x1 x2 x3 z0 z1 z2 z3 w'
        rw[hov]at HO
        obtain⟨p2,hp2⟩: ∃x,deskPlace ⟨P',T',W'⟩ z0=x:=⟨_,rfl⟩
        have HP:=Lib.hid fun(w':World) (hx:Ext wr w')=>implDp ⟨P',T',W'⟩ (some ⟨bb,off,none⟩) c5 q6 c6 z0 w' ⟨by have h:=(M7.out.sl (i:=1) rfl).ext hx;rw[hl'.out];exact h,by have h:=(M7.out.sl (i:=2) rfl).ext hx;rw[hl2'.out];exact h⟩
        dsimp only at HP
        rw[hl'.out,hl2'.out,hp2]at HP
        rw[hp2]at hfar
        clear hov hv2 hp2
        have i1:(0:Int)≤(k:Int):=by omega
        have i2:(k:Int)<(n':Int):=by omega
        have i4:(0:Int)≤(j:Int):=by omega
        have i5:(j:Int)<(n':Int):=by omega
        have i6:(j:Int)<(k:Int):=by omega
        have BX:=Lib.hid (M7.out.blk (i:=0) rfl)
        cases ov with
        |true=>
         have t3:=hfar rfl
         go_wp2
         refine region_lin (gl [gEq (.pointer (some ⟨X,1,none⟩)),gEq (.slice (some ⟨bb,off,none⟩) n' c5),gEq (.int .i64 ((k:Int))),gEq (.pointer (some ⟨bb,off+k*4,none⟩)),gEq (.agg #[.int .i64 x0,.int .i64 x1,.int .i64 x2,.int .i64 x3]),gEq (.pointer (some ⟨X,1,none⟩)),gEq (.slice (some ⟨bb,off,none⟩) n' c5),gEq (.int .i64 ((j:Int))),gEq (.pointer (some ⟨bb,off+j*4,none⟩)),gEq (.agg #[.int .i64 z0,.int .i64 z1,.int .i64 z2,.int .i64 z3]),gEq (.bool true),gEq (.bool true),gEq (.agg #[.int .i64 (P'),.slice (some ⟨bb,off,none⟩) n' c5,.slice q6 m' c6]),gEq (.pointer (some ⟨X,1,none⟩)),gEq (.slice (some ⟨bb,off,none⟩) n' c5),gEq (.int .i64 ((j:Int))),gEq (.pointer (some ⟨bb,off+j*4,none⟩)),gEq (.pointer (some ⟨bb,off+j*4,none⟩)),gEq (.int .i64 z0),gEq (.int .i64 p2),gEq (.int .i64 p),gEq (.bool false),gEq (.bool false)]) 23 (by kernel_rfl) rfl (by kernel_rfl) (by kernel_rfl) (by kernel_rfl) (gl_mono (gl_cons (gEq_mono _) (gl_cons (gEq_mono _) (gl_cons (gEq_mono _) (gl_cons (gEq_mono _) (gl_cons (gEq_mono _) (gl_cons (gEq_mono _) (gl_cons (gEq_mono _) (gl_cons (gEq_mono _) (gl_cons (gEq_mono _) (gl_cons (gEq_mono _) (gl_cons (gEq_mono _) (gl_cons (gEq_mono _) (gl_cons (gEq_mono _) (gl_cons (gEq_mono _) (gl_cons (gEq_mono _) (gl_cons (gEq_mono _) (gl_cons (gEq_mono _) (gl_cons (gEq_mono _) (gl_cons (gEq_mono _) (gl_cons (gEq_mono _) (gl_cons (gEq_mono _) (gl_cons (gEq_mono _) (gl_cons (gEq_mono _) (gl_nil))))))))))))))))))))))))) (k:=23) (by kernel_rfl) (by decide) (ls:= [(0,some 70),(1,some 71),(2,some 72),(3,some 73),(4,some 74),(5,some 75),(6,some 76),(7,some 77),(8,some 78),(9,some 79),(10,some 80),(11,some 81),(12,some 82),(13,some 83),(14,some 84),(15,some 85),(16,some 86),(17,some 87),(18,some 88),(19,some 89),(20,some 90),(21,some 91),(22,some 92)]) (by kernel_rfl) (ir:= [0,1,2,3,4,5,6,7,8,9,10,11,12,13,14,15,16,17,18,19,20,21,22]) (by kernel_rfl) ?steps (tl:=#[true,true,true,true,true,true,true,true,true,true,true,true,true,true,true,true,true,true,true,true,true,true,true]) (by kernel_rfl) ?fin
         case steps=>
          refine StepsL.cons (ps:= []) rfl (by kernel_rfl) (fun wi hx=> ?_) ?_
          ·intro K hK
           go_simp
           exact hK _ _ ⟨.pointer (some ⟨X,1,none⟩),rfl,rfl,Ext.refl _⟩
          refine StepsL.cons (ps:= [(0,some 70)]) rfl (by kernel_rfl) (fun wi hx=> ?_) ?_
          ·intro v0 h0 K hK
           obtain rfl:=h0
           have hX:Ext wr wi:=by(repeat' (first|exact Ext.refl _|(with_reducible assumption)|(with_reducible refine Ext.alloc ?_ _)|(with_reducible refine Ext.setCell ?_ (by first|exact Nat.le_refl _|(dsimp only;omega)|(simp;done)|(simp;omega)) _)|(with_reducible refine Ext.drew ?_)|(with_reducible refine Ext.drewN ?_ _)|(refine Ext.trans ?_ (by with_reducible assumption))))
           have cl0:wi.cell? ⟨X,1,none⟩=some (.slice (some ⟨bb,off,none⟩) n' c5):=(BX.out.ext hX).cell 1
           go_simp
           exact hK _ _ ⟨.slice (some ⟨bb,off,none⟩) n' c5,rfl,rfl,Ext.refl _⟩
          refine StepsL.cons (ps:= []) rfl (by kernel_rfl) (fun wi hx=> ?_) ?_
          ·intro K hK
           go_simp
           exact hK _ _ ⟨.int .i64 ((k:Int)),rfl,rfl,Ext.refl _⟩
          refine StepsL.cons (ps:= [(1,some 71),(2,some 72)]) rfl (by kernel_rfl) (fun wi hx=> ?_) ?_
          ·intro v1 h1 v2 h2 K hK
           obtain rfl:=h1
           obtain rfl:=h2
           go_simp
           exact hK _ _ ⟨.pointer (some ⟨bb,off+k*4,none⟩),rfl,rfl,Ext.refl _⟩
          refine StepsL.cons (ps:= [(3,some 73)]) rfl (by kernel_rfl) (fun wi hx=> ?_) ?_
          ·intro v3 h3 K hK
           obtain rfl:=h3
           have hX:Ext wr wi:=by(repeat' (first|exact Ext.refl _|(with_reducible assumption)|(with_reducible refine Ext.alloc ?_ _)|(with_reducible refine Ext.setCell ?_ (by first|exact Nat.le_refl _|(dsimp only;omega)|(simp;done)|(simp;omega)) _)|(with_reducible refine Ext.drew ?_)|(with_reducible refine Ext.drewN ?_ _)|(refine Ext.trans ?_ (by with_reducible assumption))))
           have cl0:wi.cell? ⟨bb,off+k*4,none⟩=some (.int .i64 x0):=(hX.cells.1 _ _ hb1).trans y0
           have cl1:wi.cell? ⟨bb,off+k*4+1,none⟩=some (.int .i64 x1):=(hX.cells.1 _ _ hb1).trans y1
           have cl2:wi.cell? ⟨bb,off+k*4+2,none⟩=some (.int .i64 x2):=(hX.cells.1 _ _ hb1).trans y2
           have cl3:wi.cell? ⟨bb,off+k*4+3,none⟩=some (.int .i64 x3):=(hX.cells.1 _ _ hb1).trans y3
           go_simp
           exact hK _ _ ⟨.agg #[.int .i64 x0,.int .i64 x1,.int .i64 x2,.int .i64 x3],rfl,rfl,Ext.refl _⟩
          refine StepsL.cons (ps:= []) rfl (by kernel_rfl) (fun wi hx=> ?_) ?_
          ·intro K hK
           go_simp
           exact hK _ _ ⟨.pointer (some ⟨X,1,none⟩),rfl,rfl,Ext.refl _⟩
          refine StepsL.cons (ps:= [(5,some 75)]) rfl (by kernel_rfl) (fun wi hx=> ?_) ?_
          ·intro v5 h5 K hK
           obtain rfl:=h5
           have hX:Ext wr wi:=by(repeat' (first|exact Ext.refl _|(with_reducible assumption)|(with_reducible refine Ext.alloc ?_ _)|(with_reducible refine Ext.setCell ?_ (by first|exact Nat.le_refl _|(dsimp only;omega)|(simp;done)|(simp;omega)) _)|(with_reducible refine Ext.drew ?_)|(with_reducible refine Ext.drewN ?_ _)|(refine Ext.trans ?_ (by with_reducible assumption))))
           have cl0:wi.cell? ⟨X,1,none⟩=some (.slice (some ⟨bb,off,none⟩) n' c5):=(BX.out.ext hX).cell 1
           go_simp
           exact hK _ _ ⟨.slice (some ⟨bb,off,none⟩) n' c5,rfl,rfl,Ext.refl _⟩
          refine StepsL.cons (ps:= []) rfl (by kernel_rfl) (fun wi hx=> ?_) ?_
          ·intro K hK
           go_simp
           exact hK _ _ ⟨.int .i64 ((j:Int)),rfl,rfl,Ext.refl _⟩
          refine StepsL.cons (ps:= [(6,some 76),(7,some 77)]) rfl (by kernel_rfl) (fun wi hx=> ?_) ?_
          ·intro v6 h6 v7 h7 K hK
           obtain rfl:=h6
           obtain rfl:=h7
           go_simp
           exact hK _ _ ⟨.pointer (some ⟨bb,off+j*4,none⟩),rfl,rfl,Ext.refl _⟩
          refine StepsL.cons (ps:= [(8,some 78)]) rfl (by kernel_rfl) (fun wi hx=> ?_) ?_
          ·intro v8 h8 K hK
           obtain rfl:=h8
           have hX:Ext wr wi:=by(repeat' (first|exact Ext.refl _|(with_reducible assumption)|(with_reducible refine Ext.alloc ?_ _)|(with_reducible refine Ext.setCell ?_ (by first|exact Nat.le_refl _|(dsimp only;omega)|(simp;done)|(simp;omega)) _)|(with_reducible refine Ext.drew ?_)|(with_reducible refine Ext.drewN ?_ _)|(refine Ext.trans ?_ (by with_reducible assumption))))
           have cl0:wi.cell? ⟨bb,off+j*4,none⟩=some (.int .i64 z0):=(hX.cells.1 _ _ hb2).trans u0
           have cl1:wi.cell? ⟨bb,off+j*4+1,none⟩=some (.int .i64 z1):=(hX.cells.1 _ _ hb2).trans u1
           have cl2:wi.cell? ⟨bb,off+j*4+2,none⟩=some (.int .i64 z2):=(hX.cells.1 _ _ hb2).trans u2
           have cl3:wi.cell? ⟨bb,off+j*4+3,none⟩=some (.int .i64 z3):=(hX.cells.1 _ _ hb2).trans u3
           go_simp
           exact hK _ _ ⟨.agg #[.int .i64 z0,.int .i64 z1,.int .i64 z2,.int .i64 z3],rfl,rfl,Ext.refl _⟩
          refine StepsL.cons (ps:= [(4,some 74),(9,some 79)]) rfl (by kernel_rfl) (fun wi hx=> ?_) ?_
          ·intro v4 h4 v9 h9 K hK
           obtain rfl:=h4
           obtain rfl:=h9
           go_simp
           refine(HO.out _).mono ?_
           rintro e w5 ⟨rfl,hx5⟩
           go_simp
           exact hK _ _ ⟨.bool true,rfl,rfl,hx5⟩
          refine StepsL.cons (ps:= [(10,some 80)]) rfl (by kernel_rfl) (fun wi hx=> ?_) ?_
          ·intro v10 h10 K hK
           obtain rfl:=h10
           go_simp
           exact hK _ _ ⟨.bool true,rfl,rfl,Ext.refl _⟩
          refine StepsL.cons (ps:= [(11,some 81)]) rfl (by kernel_rfl) (fun wi hx=> ?_) ?_
          ·intro v11 h11 K hK
           obtain rfl:=h11
           have hX:Ext wr wi:=by(repeat' (first|exact Ext.refl _|(with_reducible assumption)|(with_reducible refine Ext.alloc ?_ _)|(with_reducible refine Ext.setCell ?_ (by first|exact Nat.le_refl _|(dsimp only;omega)|(simp;done)|(simp;omega)) _)|(with_reducible refine Ext.drew ?_)|(with_reducible refine Ext.drewN ?_ _)|(refine Ext.trans ?_ (by with_reducible assumption))))
           obtain⟨cl0,cl1,cl2⟩:=((BX.out.ext hX)).tri
           go_simp
           exact hK _ _ ⟨.agg #[.int .i64 (P'),.slice (some ⟨bb,off,none⟩) n' c5,.slice q6 m' c6],rfl,rfl,Ext.refl _⟩
          refine StepsL.cons (ps:= [(11,some 81)]) rfl (by kernel_rfl) (fun wi hx=> ?_) ?_
          ·intro v11 h11 K hK
           obtain rfl:=h11
           go_simp
           exact hK _ _ ⟨.pointer (some ⟨X,1,none⟩),rfl,rfl,Ext.refl _⟩
          refine StepsL.cons (ps:= [(11,some 81),(13,some 83)]) rfl (by kernel_rfl) (fun wi hx=> ?_) ?_
          ·intro v11 h11 v13 h13 K hK
           obtain rfl:=h11
           obtain rfl:=h13
           have hX:Ext wr wi:=by(repeat' (first|exact Ext.refl _|(with_reducible assumption)|(with_reducible refine Ext.alloc ?_ _)|(with_reducible refine Ext.setCell ?_ (by first|exact Nat.le_refl _|(dsimp only;omega)|(simp;done)|(simp;omega)) _)|(with_reducible refine Ext.drew ?_)|(with_reducible refine Ext.drewN ?_ _)|(refine Ext.trans ?_ (by with_reducible assumption))))
           have cl0:wi.cell? ⟨X,1,none⟩=some (.slice (some ⟨bb,off,none⟩) n' c5):=(BX.out.ext hX).cell 1
           go_simp
           exact hK _ _ ⟨.slice (some ⟨bb,off,none⟩) n' c5,rfl,rfl,Ext.refl _⟩
          refine StepsL.cons (ps:= [(11,some 81)]) rfl (by kernel_rfl) (fun wi hx=> ?_) ?_
          ·intro v11 h11 K hK
           obtain rfl:=h11
           go_simp
           exact hK _ _ ⟨.int .i64 ((j:Int)),rfl,rfl,Ext.refl _⟩
          refine StepsL.cons (ps:= [(11,some 81),(14,some 84),(15,some 85)]) rfl (by kernel_rfl) (fun wi hx=> ?_) ?_
          ·intro v11 h11 v14 h14 v15 h15 K hK
           obtain rfl:=h11
           obtain rfl:=h14
           obtain rfl:=h15
           go_simp
           exact hK _ _ ⟨.pointer (some ⟨bb,off+j*4,none⟩),rfl,rfl,Ext.refl _⟩
          refine StepsL.cons (ps:= [(11,some 81),(16,some 86)]) rfl (by kernel_rfl) (fun wi hx=> ?_) ?_
          ·intro v11 h11 v16 h16 K hK
           obtain rfl:=h11
           obtain rfl:=h16
           go_simp
           exact hK _ _ ⟨.pointer (some ⟨bb,off+j*4,none⟩),rfl,rfl,Ext.refl _⟩
          refine StepsL.cons (ps:= [(11,some 81),(17,some 87)]) rfl (by kernel_rfl) (fun wi hx=> ?_) ?_
          ·intro v11 h11 v17 h17 K hK
           obtain rfl:=h11
           obtain rfl:=h17
           have hX:Ext wr wi:=by(repeat' (first|exact Ext.refl _|(with_reducible assumption)|(with_reducible refine Ext.alloc ?_ _)|(with_reducible refine Ext.setCell ?_ (by first|exact Nat.le_refl _|(dsimp only;omega)|(simp;done)|(simp;omega)) _)|(with_reducible refine Ext.drew ?_)|(with_reducible refine Ext.drewN ?_ _)|(refine Ext.trans ?_ (by with_reducible assumption))))
           have cl0:wi.cell? ⟨bb,off+j*4,none⟩=some (.int .i64 z0):=(hX.cells.1 _ _ hb2).trans u0
           go_simp
           exact hK _ _ ⟨.int .i64 z0,rfl,rfl,Ext.refl _⟩
          refine StepsL.cons (ps:= [(11,some 81),(12,some 82),(18,some 88)]) rfl (by kernel_rfl) (fun wi hx=> ?_) ?_
          ·intro v11 h11 v12 h12 v18 h18 K hK
           obtain rfl:=h11
           obtain rfl:=h12
           obtain rfl:=h18
           have hX:Ext wr wi:=by(repeat' (first|exact Ext.refl _|(with_reducible assumption)|(with_reducible refine Ext.alloc ?_ _)|(with_reducible refine Ext.setCell ?_ (by first|exact Nat.le_refl _|(dsimp only;omega)|(simp;done)|(simp;omega)) _)|(with_reducible refine Ext.drew ?_)|(with_reducible refine Ext.drewN ?_ _)|(refine Ext.trans ?_ (by with_reducible assumption))))
           go_simp
           refine(HP.out _ hX).mono ?_
           rintro e w5 ⟨rfl,hx5⟩
           go_simp
           exact hK _ _ ⟨.int .i64 p2,rfl,rfl,hx5⟩
          refine StepsL.cons (ps:= [(11,some 81)]) rfl (by kernel_rfl) (fun wi hx=> ?_) ?_
          ·intro v11 h11 K hK
           obtain rfl:=h11
           go_simp
           exact hK _ _ ⟨.int .i64 p,rfl,rfl,Ext.refl _⟩
          refine StepsL.cons (ps:= [(11,some 81),(19,some 89),(20,some 90)]) rfl (by kernel_rfl) (fun wi hx=> ?_) ?_
          ·intro v11 h11 v19 h19 v20 h20 K hK
           obtain rfl:=h11
           obtain rfl:=h19
           obtain rfl:=h20
           go_simp
           exact hK _ _ ⟨.bool false,rfl,rfl,Ext.refl _⟩
          refine StepsL.cons (ps:= [(11,some 81),(21,some 91)]) rfl (by kernel_rfl) (fun wi hx=> ?_) StepsL.nil
          ·intro v11 h11 v21 h21 K hK
           obtain rfl:=h11
           obtain rfl:=h21
           go_simp
           exact hK _ _ ⟨.bool false,rfl,rfl,Ext.refl _⟩
         case fin=>
          intro wi hx v0 h0 v1 h1 v2 h2 v3 h3 v4 h4 v5 h5 v6 h6 v7 h7 v8 h8 v9 h9 v10 h10 v11 h11 v12 h12 v13 h13 v14 h14 v15 h15 v16 h16 v17 h17 v18 h18 v19 h19 v20 h20 v21 h21 v22 h22
          obtain rfl:=h0
          obtain rfl:=h1
          obtain rfl:=h2
          obtain rfl:=h3
          obtain rfl:=h4
          obtain rfl:=h5
          obtain rfl:=h6
          obtain rfl:=h7
          obtain rfl:=h8
          obtain rfl:=h9
          obtain rfl:=h10
          obtain rfl:=h11
          obtain rfl:=h12
          obtain rfl:=h13
          obtain rfl:=h14
          obtain rfl:=h15
          obtain rfl:=h16
          obtain rfl:=h17
          obtain rfl:=h18
          obtain rfl:=h19
          obtain rfl:=h20
          obtain rfl:=h21
          obtain rfl:=h22
          refine wpAny_done (by kernel_rfl) ?_ _
          try simp only[Act.put,List.setIfInBounds_toArray,List.set_cons_zero,List.set_cons_succ]
          have hX9:Ext wr wi:=hx.of_drew
          go_wp2
          go_roundw
          case rel=>exact⟨j+1,by omega,by go_num,M7.out.adv hX9⟩
          case measure=>simp[intOf];omega
        |false=>
         skip
         go_wp2
         refine region_lin (gl [gEq (.pointer (some ⟨X,1,none⟩)),gEq (.slice (some ⟨bb,off,none⟩) n' c5),gEq (.int .i64 ((k:Int))),gEq (.pointer (some ⟨bb,off+k*4,none⟩)),gEq (.agg #[.int .i64 x0,.int .i64 x1,.int .i64 x2,.int .i64 x3]),gEq (.pointer (some ⟨X,1,none⟩)),gEq (.slice (some ⟨bb,off,none⟩) n' c5),gEq (.int .i64 ((j:Int))),gEq (.pointer (some ⟨bb,off+j*4,none⟩)),gEq (.agg #[.int .i64 z0,.int .i64 z1,.int .i64 z2,.int .i64 z3]),gEq (.bool false),gEq (.bool false),gEq (undef),gEq (undef),gEq (undef),gEq (undef),gEq (undef),gEq (undef),gEq (undef),gEq (undef),gEq (undef),gEq (undef),gEq (.bool false)]) 23 (by kernel_rfl) rfl (by kernel_rfl) (by kernel_rfl) (by kernel_rfl) (gl_mono (gl_cons (gEq_mono _) (gl_cons (gEq_mono _) (gl_cons (gEq_mono _) (gl_cons (gEq_mono _) (gl_cons (gEq_mono _) (gl_cons (gEq_mono _) (gl_cons (gEq_mono _) (gl_cons (gEq_mono _) (gl_cons (gEq_mono _) (gl_cons (gEq_mono _) (gl_cons (gEq_mono _) (gl_cons (gEq_mono _) (gl_cons (gEq_mono _) (gl_cons (gEq_mono _) (gl_cons (gEq_mono _) (gl_cons (gEq_mono _) (gl_cons (gEq_mono _) (gl_cons (gEq_mono _) (gl_cons (gEq_mono _) (gl_cons (gEq_mono _) (gl_cons (gEq_mono _) (gl_cons (gEq_mono _) (gl_cons (gEq_mono _) (gl_nil))))))))))))))))))))))))) (k:=23) (by kernel_rfl) (by decide) (ls:= [(0,some 70),(1,some 71),(2,some 72),(3,some 73),(4,some 74),(5,some 75),(6,some 76),(7,some 77),(8,some 78),(9,some 79),(10,some 80),(11,some 81),(12,some 82),(13,some 83),(14,some 84),(15,some 85),(16,some 86),(17,some 87),(18,some 88),(19,some 89),(20,some 90),(21,some 91),(22,some 92)]) (by kernel_rfl) (ir:= [0,1,2,3,4,5,6,7,8,9,10,11,12,13,14,15,16,17,18,19,20,21,22]) (by kernel_rfl) ?steps (tl:=#[true,true,true,true,true,true,true,true,true,true,true,true,true,true,true,true,true,true,true,true,true,true,true]) (by kernel_rfl) ?fin
         case steps=>
          refine StepsL.cons (ps:= []) rfl (by kernel_rfl) (fun wi hx=> ?_) ?_
          ·intro K hK
           go_simp
           exact hK _ _ ⟨.pointer (some ⟨X,1,none⟩),rfl,rfl,Ext.refl _⟩
          refine StepsL.cons (ps:= [(0,some 70)]) rfl (by kernel_rfl) (fun wi hx=> ?_) ?_
          ·intro v0 h0 K hK
           obtain rfl:=h0
           have hX:Ext wr wi:=by(repeat' (first|exact Ext.refl _|(with_reducible assumption)|(with_reducible refine Ext.alloc ?_ _)|(with_reducible refine Ext.setCell ?_ (by first|exact Nat.le_refl _|(dsimp only;omega)|(simp;done)|(simp;omega)) _)|(with_reducible refine Ext.drew ?_)|(with_reducible refine Ext.drewN ?_ _)|(refine Ext.trans ?_ (by with_reducible assumption))))
           have cl0:wi.cell? ⟨X,1,none⟩=some (.slice (some ⟨bb,off,none⟩) n' c5):=(BX.out.ext hX).cell 1
           go_simp
           exact hK _ _ ⟨.slice (some ⟨bb,off,none⟩) n' c5,rfl,rfl,Ext.refl _⟩
          refine StepsL.cons (ps:= []) rfl (by kernel_rfl) (fun wi hx=> ?_) ?_
          ·intro K hK
           go_simp
           exact hK _ _ ⟨.int .i64 ((k:Int)),rfl,rfl,Ext.refl _⟩
          refine StepsL.cons (ps:= [(1,some 71),(2,some 72)]) rfl (by kernel_rfl) (fun wi hx=> ?_) ?_
          ·intro v1 h1 v2 h2 K hK
           obtain rfl:=h1
           obtain rfl:=h2
           go_simp
           exact hK _ _ ⟨.pointer (some ⟨bb,off+k*4,none⟩),rfl,rfl,Ext.refl _⟩
          refine StepsL.cons (ps:= [(3,some 73)]) rfl (by kernel_rfl) (fun wi hx=> ?_) ?_
          ·intro v3 h3 K hK
           obtain rfl:=h3
           have hX:Ext wr wi:=by(repeat' (first|exact Ext.refl _|(with_reducible assumption)|(with_reducible refine Ext.alloc ?_ _)|(with_reducible refine Ext.setCell ?_ (by first|exact Nat.le_refl _|(dsimp only;omega)|(simp;done)|(simp;omega)) _)|(with_reducible refine Ext.drew ?_)|(with_reducible refine Ext.drewN ?_ _)|(refine Ext.trans ?_ (by with_reducible assumption))))
           have cl0:wi.cell? ⟨bb,off+k*4,none⟩=some (.int .i64 x0):=(hX.cells.1 _ _ hb1).trans y0
           have cl1:wi.cell? ⟨bb,off+k*4+1,none⟩=some (.int .i64 x1):=(hX.cells.1 _ _ hb1).trans y1
           have cl2:wi.cell? ⟨bb,off+k*4+2,none⟩=some (.int .i64 x2):=(hX.cells.1 _ _ hb1).trans y2
           have cl3:wi.cell? ⟨bb,off+k*4+3,none⟩=some (.int .i64 x3):=(hX.cells.1 _ _ hb1).trans y3
           go_simp
           exact hK _ _ ⟨.agg #[.int .i64 x0,.int .i64 x1,.int .i64 x2,.int .i64 x3],rfl,rfl,Ext.refl _⟩
          refine StepsL.cons (ps:= []) rfl (by kernel_rfl) (fun wi hx=> ?_) ?_
          ·intro K hK
           go_simp
           exact hK _ _ ⟨.pointer (some ⟨X,1,none⟩),rfl,rfl,Ext.refl _⟩
          refine StepsL.cons (ps:= [(5,some 75)]) rfl (by kernel_rfl) (fun wi hx=> ?_) ?_
          ·intro v5 h5 K hK
           obtain rfl:=h5
           have hX:Ext wr wi:=by(repeat' (first|exact Ext.refl _|(with_reducible assumption)|(with_reducible refine Ext.alloc ?_ _)|(with_reducible refine Ext.setCell ?_ (by first|exact Nat.le_refl _|(dsimp only;omega)|(simp;done)|(simp;omega)) _)|(with_reducible refine Ext.drew ?_)|(with_reducible refine Ext.drewN ?_ _)|(refine Ext.trans ?_ (by with_reducible assumption))))
           have cl0:wi.cell? ⟨X,1,none⟩=some (.slice (some ⟨bb,off,none⟩) n' c5):=(BX.out.ext hX).cell 1
           go_simp
           exact hK _ _ ⟨.slice (some ⟨bb,off,none⟩) n' c5,rfl,rfl,Ext.refl _⟩
          refine StepsL.cons (ps:= []) rfl (by kernel_rfl) (fun wi hx=> ?_) ?_
          ·intro K hK
           go_simp
           exact hK _ _ ⟨.int .i64 ((j:Int)),rfl,rfl,Ext.refl _⟩
          refine StepsL.cons (ps:= [(6,some 76),(7,some 77)]) rfl (by kernel_rfl) (fun wi hx=> ?_) ?_
          ·intro v6 h6 v7 h7 K hK
           obtain rfl:=h6
           obtain rfl:=h7
           go_simp
           exact hK _ _ ⟨.pointer (some ⟨bb,off+j*4,none⟩),rfl,rfl,Ext.refl _⟩
          refine StepsL.cons (ps:= [(8,some 78)]) rfl (by kernel_rfl) (fun wi hx=> ?_) ?_
          ·intro v8 h8 K hK
           obtain rfl:=h8
           have hX:Ext wr wi:=by(repeat' (first|exact Ext.refl _|(with_reducible assumption)|(with_reducible refine Ext.alloc ?_ _)|(with_reducible refine Ext.setCell ?_ (by first|exact Nat.le_refl _|(dsimp only;omega)|(simp;done)|(simp;omega)) _)|(with_reducible refine Ext.drew ?_)|(with_reducible refine Ext.drewN ?_ _)|(refine Ext.trans ?_ (by with_reducible assumption))))
           have cl0:wi.cell? ⟨bb,off+j*4,none⟩=some (.int .i64 z0):=(hX.cells.1 _ _ hb2).trans u0
           have cl1:wi.cell? ⟨bb,off+j*4+1,none⟩=some (.int .i64 z1):=(hX.cells.1 _ _ hb2).trans u1
           have cl2:wi.cell? ⟨bb,off+j*4+2,none⟩=some (.int .i64 z2):=(hX.cells.1 _ _ hb2).trans u2
           have cl3:wi.cell? ⟨bb,off+j*4+3,none⟩=some (.int .i64 z3):=(hX.cells.1 _ _ hb2).trans u3
           go_simp
           exact hK _ _ ⟨.agg #[.int .i64 z0,.int .i64 z1,.int .i64 z2,.int .i64 z3],rfl,rfl,Ext.refl _⟩
          refine StepsL.cons (ps:= [(4,some 74),(9,some 79)]) rfl (by kernel_rfl) (fun wi hx=> ?_) ?_
          ·intro v4 h4 v9 h9 K hK
           obtain rfl:=h4
           obtain rfl:=h9
           go_simp
           refine(HO.out _).mono ?_
           rintro e w5 ⟨rfl,hx5⟩
           go_simp
           exact hK _ _ ⟨.bool false,rfl,rfl,hx5⟩
          refine StepsL.cons (ps:= [(10,some 80)]) rfl (by kernel_rfl) (fun wi hx=> ?_) ?_
          ·intro v10 h10 K hK
           obtain rfl:=h10
           go_simp
           exact hK _ _ ⟨.bool false,rfl,rfl,Ext.refl _⟩
          refine StepsL.cons (ps:= [(11,some 81)]) rfl (by kernel_rfl) (fun wi hx=> ?_) ?_
          ·intro v11 h11 K hK
           obtain rfl:=h11
           go_simp
           exact hK _ _ ⟨undef,rfl,rfl,Ext.refl _⟩
          refine StepsL.cons (ps:= [(11,some 81)]) rfl (by kernel_rfl) (fun wi hx=> ?_) ?_
          ·intro v11 h11 K hK
           obtain rfl:=h11
           go_simp
           exact hK _ _ ⟨undef,rfl,rfl,Ext.refl _⟩
          refine StepsL.cons (ps:= [(11,some 81),(13,some 83)]) rfl (by kernel_rfl) (fun wi hx=> ?_) ?_
          ·intro v11 h11 v13 h13 K hK
           obtain rfl:=h11
           obtain rfl:=h13
           go_simp
           exact hK _ _ ⟨undef,rfl,rfl,Ext.refl _⟩
          refine StepsL.cons (ps:= [(11,some 81)]) rfl (by kernel_rfl) (fun wi hx=> ?_) ?_
          ·intro v11 h11 K hK
           obtain rfl:=h11
           go_simp
           exact hK _ _ ⟨undef,rfl,rfl,Ext.refl _⟩
          refine StepsL.cons (ps:= [(11,some 81),(14,some 84),(15,some 85)]) rfl (by kernel_rfl) (fun wi hx=> ?_) ?_
          ·intro v11 h11 v14 h14 v15 h15 K hK
           obtain rfl:=h11
           obtain rfl:=h14
           obtain rfl:=h15
           go_simp
           exact hK _ _ ⟨undef,rfl,rfl,Ext.refl _⟩
          refine StepsL.cons (ps:= [(11,some 81),(16,some 86)]) rfl (by kernel_rfl) (fun wi hx=> ?_) ?_
          ·intro v11 h11 v16 h16 K hK
           obtain rfl:=h11
           obtain rfl:=h16
           go_simp
           exact hK _ _ ⟨undef,rfl,rfl,Ext.refl _⟩
          refine StepsL.cons (ps:= [(11,some 81),(17,some 87)]) rfl (by kernel_rfl) (fun wi hx=> ?_) ?_
          ·intro v11 h11 v17 h17 K hK
           obtain rfl:=h11
           obtain rfl:=h17
           go_simp
           exact hK _ _ ⟨undef,rfl,rfl,Ext.refl _⟩
          refine StepsL.cons (ps:= [(11,some 81),(12,some 82),(18,some 88)]) rfl (by kernel_rfl) (fun wi hx=> ?_) ?_
          ·intro v11 h11 v12 h12 v18 h18 K hK
           obtain rfl:=h11
           obtain rfl:=h12
           obtain rfl:=h18
           go_simp
           exact hK _ _ ⟨undef,rfl,rfl,Ext.refl _⟩
          refine StepsL.cons (ps:= [(11,some 81)]) rfl (by kernel_rfl) (fun wi hx=> ?_) ?_
          ·intro v11 h11 K hK
           obtain rfl:=h11
           go_simp
           exact hK _ _ ⟨undef,rfl,rfl,Ext.refl _⟩
          refine StepsL.cons (ps:= [(11,some 81),(19,some 89),(20,some 90)]) rfl (by kernel_rfl) (fun wi hx=> ?_) ?_
          ·intro v11 h11 v19 h19 v20 h20 K hK
           obtain rfl:=h11
           obtain rfl:=h19
           obtain rfl:=h20
           go_simp
           exact hK _ _ ⟨undef,rfl,rfl,Ext.refl _⟩
          refine StepsL.cons (ps:= [(11,some 81),(21,some 91)]) rfl (by kernel_rfl) (fun wi hx=> ?_) StepsL.nil
          ·intro v11 h11 v21 h21 K hK
           obtain rfl:=h11
           obtain rfl:=h21
           go_simp
           exact hK _ _ ⟨.bool false,rfl,rfl,Ext.refl _⟩
         case fin=>
          intro wi hx v0 h0 v1 h1 v2 h2 v3 h3 v4 h4 v5 h5 v6 h6 v7 h7 v8 h8 v9 h9 v10 h10 v11 h11 v12 h12 v13 h13 v14 h14 v15 h15 v16 h16 v17 h17 v18 h18 v19 h19 v20 h20 v21 h21 v22 h22
          obtain rfl:=h0
          obtain rfl:=h1
          obtain rfl:=h2
          obtain rfl:=h3
          obtain rfl:=h4
          obtain rfl:=h5
          obtain rfl:=h6
          obtain rfl:=h7
          obtain rfl:=h8
          obtain rfl:=h9
          obtain rfl:=h10
          obtain rfl:=h11
          obtain rfl:=h12
          obtain rfl:=h13
          obtain rfl:=h14
          obtain rfl:=h15
          obtain rfl:=h16
          obtain rfl:=h17
          obtain rfl:=h18
          obtain rfl:=h19
          obtain rfl:=h20
          obtain rfl:=h21
          obtain rfl:=h22
          refine wpAny_done (by kernel_rfl) ?_ _
          try simp only[Act.put,List.setIfInBounds_toArray,List.set_cons_zero,List.set_cons_succ]
          have hX9:Ext wr wi:=hx.of_drew
          go_wp2
          go_roundw
          case rel=>exact⟨j+1,by omega,by go_num,M7.out.adv hX9⟩
          case measure=>simp[intOf];omega
       ·skip
        have hjk2:j=k:=by omega
        subst hjk2
        clear hjk hj
        have t9:decide ((j:Int)<(j:Int))=false:=by simp
        go_wp2
        go_roundw
        case rel=>exact⟨j+1,by omega,by go_num,M7.out⟩
        case measure=>simp[intOf];omega
    ·skip
     have lt5_0:X<wr.heap.size:=(M5.out.lt (i:=0) rfl rfl).2
     have lt5_3:w1.heap.size<wr.heap.size:=(M5.out.lt (i:=3) rfl rfl).2
     have hkn:k=n':=by omega
     subst hkn
     clear hlt hk
     obtain⟨h,hh⟩: ∃x,x=n3/2:=⟨_,rfl⟩
     have hh2:h≤n3:=by omega
     have t0:decide ((k:Int)<(k:Int))=false:=by simp
     have t8:(n3:Int)/2=(h:Int):=by omega
     clear hh
     have HVx:=Lib.hid fun(w':World) (hx:Ext wr w')=>implDv P' q5 k c5 q6 m' c6 T' W' w' ((M5.out.sl (i:=1) rfl).ext hx) ((M5.out.sl (i:=2) rfl).ext hx)
     rw[HK.out]at HVx
     obtain⟨⟨P1,T1,W1⟩,hA1⟩: ∃x,deskRun ⟨P,T,W⟩ (bs.take h)=x:=⟨_,rfl⟩
     have hA2:deskRun ⟨P1,T1,W1⟩ (bs.drop h)=⟨P',T',W'⟩:=by rw[←hA1,run_half _ _ _ HVV.out];exact HA.out
     obtain⟨n1,hn1⟩: ∃x,T1.length=x:=⟨_,rfl⟩
     obtain⟨m1,hm1⟩: ∃x,W1.length=x:=⟨_,rfl⟩
     have HR1:=Lib.hid fun(w':World) (hx:Ext wr w') (p:Option Addr) (d:Nat) (h3:Sl w' p h d 4 ((bs.take h).flatMap visitCells))=>(implRun P q n c q2 m c2 p h d T W (bs.take h) w' (by omega) (HS.out.ext (M5.out.ext.trans hx)) (HS2.out.ext (M5.out.ext.trans hx)) h3).mono (fun e w'' h=>by rw[hA1]at h;exact h.is2 hn1 hm1)
     have HR2:=Lib.hid fun(w':World) (qa:Option Addr) (ca:Nat) (qb:Option Addr) (cb:Nat) (p:Option Addr) (d:Nat) (h1:Sl w' qa n1 ca 4 (T1.flatMap visitCells)) (h2:Sl w' qb m1 cb 4 (W1.flatMap visitCells)) (h3:Sl w' p (n3-h) d 4 ((bs.drop h).flatMap visitCells))=>(implRun P1 qa n1 ca qb m1 cb p (n3-h) d T1 W1 (bs.drop h) w' (by omega) h1 h2 h3).mono (fun e w'' h=>by rw[hA2]at h;exact h.is2 hl'.out hl2'.out)
     clear hA1 hA2 hn1 hm1 HA HVV
     have BX:=Lib.hid (M5.out.blk (i:=0) rfl)
     have BD:=Lib.hid (M5.out.blk (i:=3) rfl)
     have S5:=Lib.hid (M5.out.sl (i:=1) rfl)
     have S6:=Lib.hid (M5.out.sl (i:=2) rfl)
     have S3:=Lib.hid (HS3.out.ext M5.out.ext)
     obtain⟨ca0,ca1,ca2⟩:=(M5.out.blk (i:=0) rfl).tri
     have hcl:=S3.out.le
     have hcb:=S3.out.bd
     have j0:(0:Int)≤(h:Int):=by omega
     have j1:(h:Int)≤(n3:Int):=by omega
     have j2:(n3:Int)≤(c3:Int):=by omega
     have j3:(h:Int)≤(c3:Int):=by omega
     have ht:((h:Int)).toNat=h:=by omega
     have STk:=Lib.hid (bk_take S3.out hh2)
     have SDr:=Lib.hid (sl_dropIf S3.out hh2)
     go_wp2
     clear ca0 ca1 ca2
     refine region_lin (gl [gEq (.agg #[.int .i64 (P'),.slice q5 k c5,.slice q6 m' c6]),gEq (.bool true),gEq (.bool true),gEq (.agg #[.int .i64 P,.slice q n c,.slice q2 m c2]),gEq (.slice (some ⟨g3,0,none⟩) n3 c3),gEq (.int .i64 ((h:Int))),gEq (.slice (some ⟨g3,0,none⟩) h c3),(fun v w'=> ∃qa ca qb cb,v= .agg #[.int .i64 P1,.slice qa n1 ca,.slice qb m1 cb]∧Sl w' qa n1 ca 4 (T1.flatMap visitCells)∧Sl w' qb m1 cb 4 (W1.flatMap visitCells)),gEq (.slice (some ⟨g3,0,none⟩) n3 c3),gEq (.int .i64 ((h:Int))),(fun v w'=> ∃(p:Option Addr) (d:Nat),v= .slice p (n3-h) d∧Sl w' p (n3-h) d 4 ((bs.drop h).flatMap visitCells)),(fun v w'=> ∃qa ca qb cb,v= .agg #[.int .i64 P',.slice qa k ca,.slice qb m' cb]∧Sl w' qa k ca 4 (T'.flatMap visitCells)∧Sl w' qb m' cb 4 (W'.flatMap visitCells)),gEq (.agg #[.int .i64 (P'),.slice q5 k c5,.slice q6 m' c6]),gEq (.bool true),gEq (.bool true),gEq (.bool true)]) 16 (by kernel_rfl) rfl (by kernel_rfl) (by kernel_rfl) (by kernel_rfl) (gl_mono (gl_cons (gEq_mono _) (gl_cons (gEq_mono _) (gl_cons (gEq_mono _) (gl_cons (gEq_mono _) (gl_cons (gEq_mono _) (gl_cons (gEq_mono _) (gl_cons (gEq_mono _) (gl_cons (fun v w w' ⟨qa,ca,qb,cb,he,h1,h2⟩ hx=>⟨qa,ca,qb,cb,he,h1.ext hx,h2.ext hx⟩) (gl_cons (gEq_mono _) (gl_cons (gEq_mono _) (gl_cons (fun v w w' ⟨p,d,h1,h2⟩ hx=>⟨p,d,h1,h2.ext hx⟩) (gl_cons (fun v w w' ⟨qa,ca,qb,cb,he,h1,h2⟩ hx=>⟨qa,ca,qb,cb,he,h1.ext hx,h2.ext hx⟩) (gl_cons (gEq_mono _) (gl_cons (gEq_mono _) (gl_cons (gEq_mono _) (gl_cons (gEq_mono _) (gl_nil)))))))))))))))))) (k:=16) (by kernel_rfl) (by decide) (ls:= [(0,some 96),(1,some 97),(2,some 98),(3,some 99),(4,some 100),(5,some 101),(6,some 102),(7,some 103),(8,some 104),(9,some 105),(10,some 106),(11,some 107),(12,some 108),(13,some 109),(14,some 110),(15,some 2)]) (by kernel_rfl) (ir:= [0,1,2,3,4,5,6,7,8,9,10,11,12,13,14,15]) (by kernel_rfl) ?steps (tl:=#[true,true,true,true,true,true,true,true,true,true,true,true,true,true,true,true]) (by kernel_rfl) ?fin
     case steps=>
      refine StepsL.cons (ps:= []) rfl (by kernel_rfl) (fun wi hx=> ?_) ?_
      ·intro K hK
       have hX:Ext wr wi:=by(repeat' (first|exact Ext.refl _|(with_reducible assumption)|(with_reducible refine Ext.alloc ?_ _)|(with_reducible refine Ext.setCell ?_ (by first|exact Nat.le_refl _|(dsimp only;omega)|(simp;done)|(simp;omega)) _)|(with_reducible refine Ext.drew ?_)|(with_reducible refine Ext.drewN ?_ _)|(refine Ext.trans ?_ (by with_reducible assumption))))
       obtain⟨cl0,cl1,cl2⟩:=((BX.out.ext hX)).tri
       go_simp
       exact hK _ _ ⟨.agg #[.int .i64 (P'),.slice q5 k c5,.slice q6 m' c6],rfl,rfl,Ext.refl _⟩
      refine StepsL.cons (ps:= [(0,some 96)]) rfl (by kernel_rfl) (fun wi hx=> ?_) ?_
      ·intro v0 h0 K hK
       obtain rfl:=h0
       go_simp
       refine(HVx.out _ (by(repeat' (first|exact Ext.refl _|(with_reducible assumption)|(with_reducible refine Ext.alloc ?_ _)|(with_reducible refine Ext.setCell ?_ (by first|exact Nat.le_refl _|(dsimp only;omega)|(simp;done)|(simp;omega)) _)|(with_reducible refine Ext.drew ?_)|(with_reducible refine Ext.drewN ?_ _)|(refine Ext.trans ?_ (by with_reducible assumption)))))).mono ?_
       rintro e w5 ⟨rfl,hx5⟩
       go_simp
       exact hK _ _ ⟨.bool true,rfl,rfl,hx5⟩
      refine StepsL.cons (ps:= [(1,some 97)]) rfl (by kernel_rfl) (fun wi hx=> ?_) ?_
      ·intro v1 h1 K hK
       obtain rfl:=h1
       go_simp
       exact hK _ _ ⟨.bool true,rfl,rfl,Ext.refl _⟩
      refine StepsL.cons (ps:= [(2,some 98)]) rfl (by kernel_rfl) (fun wi hx=> ?_) ?_
      ·intro v2 h2 K hK
       obtain rfl:=h2
       have hX:Ext wr wi:=by(repeat' (first|exact Ext.refl _|(with_reducible assumption)|(with_reducible refine Ext.alloc ?_ _)|(with_reducible refine Ext.setCell ?_ (by first|exact Nat.le_refl _|(dsimp only;omega)|(simp;done)|(simp;omega)) _)|(with_reducible refine Ext.drew ?_)|(with_reducible refine Ext.drewN ?_ _)|(refine Ext.trans ?_ (by with_reducible assumption))))
       obtain⟨cl0,cl1,cl2⟩:=((BD.out.ext hX)).tri
       go_simp
       exact hK _ _ ⟨.agg #[.int .i64 P,.slice q n c,.slice q2 m c2],rfl,rfl,Ext.refl _⟩
      refine StepsL.cons (ps:= [(2,some 98)]) rfl (by kernel_rfl) (fun wi hx=> ?_) ?_
      ·intro v2 h2 K hK
       obtain rfl:=h2
       go_simp
       exact hK _ _ ⟨.slice (some ⟨g3,0,none⟩) n3 c3,rfl,rfl,Ext.refl _⟩
      refine StepsL.cons (ps:= [(2,some 98)]) rfl (by kernel_rfl) (fun wi hx=> ?_) ?_
      ·intro v2 h2 K hK
       obtain rfl:=h2
       go_simp
       exact hK _ _ ⟨.int .i64 ((h:Int)),rfl,rfl,Ext.refl _⟩
      refine StepsL.cons (ps:= [(2,some 98),(4,some 100),(5,some 101)]) rfl (by kernel_rfl) (fun wi hx=> ?_) ?_
      ·intro v2 h2 v4 h4 v5 h5 K hK
       obtain rfl:=h2
       obtain rfl:=h4
       obtain rfl:=h5
       go_simp
       exact hK _ _ ⟨.slice (some ⟨g3,0,none⟩) h c3,rfl,rfl,Ext.refl _⟩
      refine StepsL.cons (ps:= [(2,some 98),(3,some 99),(6,some 102)]) rfl (by kernel_rfl) (fun wi hx=> ?_) ?_
      ·intro v2 h2 v3 h3 v6 h6 K hK
       obtain rfl:=h2
       obtain rfl:=h3
       obtain rfl:=h6
       have hX:Ext wr wi:=by(repeat' (first|exact Ext.refl _|(with_reducible assumption)|(with_reducible refine Ext.alloc ?_ _)|(with_reducible refine Ext.setCell ?_ (by first|exact Nat.le_refl _|(dsimp only;omega)|(simp;done)|(simp;omega)) _)|(with_reducible refine Ext.drew ?_)|(with_reducible refine Ext.drewN ?_ _)|(refine Ext.trans ?_ (by with_reducible assumption))))
       go_simp
       refine(HR1.out _ hX _ _ (STk.out.ext hX)).mono ?_
       rintro e w5 ⟨qa,ca,qb,cb,rfl,hm5⟩
       have s5a:=hm5.sl (i:=0) rfl
       have s5b:=hm5.sl (i:=1) rfl
       have hx5:=hm5.ext
       go_simp
       exact hK _ _ ⟨.agg #[.int .i64 P1,.slice qa n1 ca,.slice qb m1 cb],rfl,⟨qa,ca,qb,cb,rfl,s5a,s5b⟩,hx5⟩
      refine StepsL.cons (ps:= [(2,some 98)]) rfl (by kernel_rfl) (fun wi hx=> ?_) ?_
      ·intro v2 h2 K hK
       obtain rfl:=h2
       go_simp
       exact hK _ _ ⟨.slice (some ⟨g3,0,none⟩) n3 c3,rfl,rfl,Ext.refl _⟩
      refine StepsL.cons (ps:= [(2,some 98)]) rfl (by kernel_rfl) (fun wi hx=> ?_) ?_
      ·intro v2 h2 K hK
       obtain rfl:=h2
       go_simp
       exact hK _ _ ⟨.int .i64 ((h:Int)),rfl,rfl,Ext.refl _⟩
      refine StepsL.cons (ps:= [(2,some 98),(8,some 104),(9,some 105)]) rfl (by kernel_rfl) (fun wi hx=> ?_) ?_
      ·intro v2 h2 v8 h8 v9 h9 K hK
       obtain rfl:=h2
       obtain rfl:=h8
       obtain rfl:=h9
       have hX:Ext wr wi:=by(repeat' (first|exact Ext.refl _|(with_reducible assumption)|(with_reducible refine Ext.alloc ?_ _)|(with_reducible refine Ext.setCell ?_ (by first|exact Nat.le_refl _|(dsimp only;omega)|(simp;done)|(simp;omega)) _)|(with_reducible refine Ext.drew ?_)|(with_reducible refine Ext.drewN ?_ _)|(refine Ext.trans ?_ (by with_reducible assumption))))
       go_simp
       exact hK _ _ ⟨_,rfl,⟨_,_,rfl,drop_books h bs▸SDr.out.ext hX⟩,Ext.refl _⟩
      refine StepsL.cons (ps:= [(2,some 98),(7,some 103),(10,some 106)]) rfl (by kernel_rfl) (fun wi hx=> ?_) ?_
      ·intro v2 h2 v7 h7 v10 h10 K hK
       obtain rfl:=h2
       obtain⟨qa7,ca7,qb7,cb7,rfl,sa7,sb7⟩:=h7
       obtain⟨p10,d10,rfl,S10⟩:=h10
       have hX:Ext wr wi:=by(repeat' (first|exact Ext.refl _|(with_reducible assumption)|(with_reducible refine Ext.alloc ?_ _)|(with_reducible refine Ext.setCell ?_ (by first|exact Nat.le_refl _|(dsimp only;omega)|(simp;done)|(simp;omega)) _)|(with_reducible refine Ext.drew ?_)|(with_reducible refine Ext.drewN ?_ _)|(refine Ext.trans ?_ (by with_reducible assumption))))
       go_simp
       refine(HR2.out _ _ _ _ _ _ _ sa7 sb7 S10).mono ?_
       rintro e w5 ⟨qa,ca,qb,cb,rfl,hm5⟩
       have s5a:=hm5.sl (i:=0) rfl
       have s5b:=hm5.sl (i:=1) rfl
       have hx5:=hm5.ext
       go_simp
       exact hK _ _ ⟨.agg #[.int .i64 P',.slice qa k ca,.slice qb m' cb],rfl,⟨qa,ca,qb,cb,rfl,s5a,s5b⟩,hx5⟩
      refine StepsL.cons (ps:= [(2,some 98)]) rfl (by kernel_rfl) (fun wi hx=> ?_) ?_
      ·intro v2 h2 K hK
       obtain rfl:=h2
       have hX:Ext wr wi:=by(repeat' (first|exact Ext.refl _|(with_reducible assumption)|(with_reducible refine Ext.alloc ?_ _)|(with_reducible refine Ext.setCell ?_ (by first|exact Nat.le_refl _|(dsimp only;omega)|(simp;done)|(simp;omega)) _)|(with_reducible refine Ext.drew ?_)|(with_reducible refine Ext.drewN ?_ _)|(refine Ext.trans ?_ (by with_reducible assumption))))
       obtain⟨cl0,cl1,cl2⟩:=((BX.out.ext hX)).tri
       go_simp
       exact hK _ _ ⟨.agg #[.int .i64 (P'),.slice q5 k c5,.slice q6 m' c6],rfl,rfl,Ext.refl _⟩
      refine StepsL.cons (ps:= [(2,some 98),(11,some 107),(12,some 108)]) rfl (by kernel_rfl) (fun wi hx=> ?_) ?_
      ·intro v2 h2 v11 h11 v12 h12 K hK
       obtain rfl:=h2
       obtain⟨qa11,ca11,qb11,cb11,rfl,sa11,sb11⟩:=h11
       obtain rfl:=h12
       go_simp
       refine(sameDesk_any P' qa11 k ca11 qb11 m' cb11 q5 c5 q6 c6 T' W' _ sa11 sb11 (S5.out.ext (by(repeat' (first|exact Ext.refl _|(with_reducible assumption)|(with_reducible refine Ext.alloc ?_ _)|(with_reducible refine Ext.setCell ?_ (by first|exact Nat.le_refl _|(dsimp only;omega)|(simp;done)|(simp;omega)) _)|(with_reducible refine Ext.drew ?_)|(with_reducible refine Ext.drewN ?_ _)|(refine Ext.trans ?_ (by with_reducible assumption)))))) (S6.out.ext (by(repeat' (first|exact Ext.refl _|(with_reducible assumption)|(with_reducible refine Ext.alloc ?_ _)|(with_reducible refine Ext.setCell ?_ (by first|exact Nat.le_refl _|(dsimp only;omega)|(simp;done)|(simp;omega)) _)|(with_reducible refine Ext.drew ?_)|(with_reducible refine Ext.drewN ?_ _)|(refine Ext.trans ?_ (by with_reducible assumption))))))).mono ?_
       rintro e w5 ⟨rfl,hx5⟩
       go_simp
       exact hK _ _ ⟨.bool true,rfl,rfl,hx5⟩
      refine StepsL.cons (ps:= [(2,some 98),(13,some 109)]) rfl (by kernel_rfl) (fun wi hx=> ?_) ?_
      ·intro v2 h2 v13 h13 K hK
       obtain rfl:=h2
       obtain rfl:=h13
       go_simp
       exact hK _ _ ⟨.bool true,rfl,rfl,Ext.refl _⟩
      refine StepsL.cons (ps:= [(14,some 110)]) rfl (by kernel_rfl) (fun wi hx=> ?_) StepsL.nil
      ·intro v14 h14 K hK
       obtain rfl:=h14
       go_simp
       exact hK _ _ ⟨.bool true,rfl,rfl,Ext.refl _⟩
     case fin=>
      intro wi hx v0 h0 v1 h1 v2 h2 v3 h3 v4 h4 v5 h5 v6 h6 v7 h7 v8 h8 v9 h9 v10 h10 v11 h11 v12 h12 v13 h13 v14 h14 v15 h15
      obtain rfl:=h0
      obtain rfl:=h1
      obtain rfl:=h2
      obtain rfl:=h3
      obtain rfl:=h4
      obtain rfl:=h5
      obtain rfl:=h6
      obtain⟨qa7,ca7,qb7,cb7,rfl,sa7,sb7⟩:=h7
      obtain rfl:=h8
      obtain rfl:=h9
      obtain⟨p10,d10,rfl,S10⟩:=h10
      obtain⟨qa11,ca11,qb11,cb11,rfl,sa11,sb11⟩:=h11
      obtain rfl:=h12
      obtain rfl:=h13
      obtain rfl:=h14
      obtain rfl:=h15
      refine wpAny_done (by kernel_rfl) ?_ _
      try simp only[Act.put,List.setIfInBounds_toArray,List.set_cons_zero,List.set_cons_succ]
      have hX9:Ext wr wi:=hx.of_drew
      have XZ:Ext w wi:=hX1.out.trans (M5.out.ext.trans hX9)
      go_wp2
      go_ret
      exact⟨rfl,XZ⟩
theorem walk_FnDeskRun (W:World)(v:Value)(u:Unit)(hc:Code W v)(hE:Env W):Calls Tryd.prog 8 #[v] W fun e w'=>e= .returned (.bool true)∧Ext W w':=by
 have hD:=drawDeskRun v W hc
 obtain⟨p0,n,cap,bs,rfl,h,hb⟩:=hc
 by_cases hn:(n:Int)≤1048576
 ·exact fnDeskRun_o p0 n cap W hn (Lib.hid hE) hD
 ·exact fnDeskRun_big p0 n cap W (by omega)
end Go.Proofs.YtndcnflchkfaeaaDoor
