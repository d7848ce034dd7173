/-
  Texts of this proof, packed (@packed).
-/
import Derived.Deep.RegionHeld3
import Derived.Test.YteejdnmmpmcmeaaGreatDoorP35
namespace Go.Proofs.YteejdnmmpmcmeaaGreatDoor
open Go.RowKit
set_option linter.unusedVariables false
set_option linter.unusedSimpArgs false
set_option maxRecDepth 100000 in
set_option maxHeartbeats 4000000 in
theorem jM (l:List UInt8)(w:World)(hs:l.length≤1048576)(hE:Env w):Calls Tryz.prog 39 #[str l] w (tL ((aW l).getD bT) (aW l).isSome w):=by
 have HS:Hid (∀w,Env w→Calls Tryz.prog 85 #[str l,.string ⟨#[59]⟩] w fun e w'=> ∃v,e= .returned v∧w'.ownsRow w.heap.size nD 1 v (aL 59 l).length (iQ (aL 59 l))∧Ext w w'):=
  fun w hE=>rL ⟨l.toArray⟩ 59 w (by simp only[ByteArray.size,List.size_toArray];omega) hE
 have hlen:=dZ 59 l
 have HL:Hid (∀p∈aL 59 l,p.length<4294967281):=fun p hp=>Nat.lt_of_le_of_lt (hlen.1 p hp) (by omega)
 have HE:=xQ hE
 have hlen2:=hlen.2
 have hpos:0<(aL 59 l).length:=List.length_pos_iff.2 (eH 59 l)
 clear hlen hE
 go_enter Tryz.func39,Tryz.ntmps39
 go_wp2_with fail
 refine(HS.out _ (HE.out.ext xE)).mono ?_
 rintro e w1 ⟨v,rfl,hown,h1⟩
 have hown1:=xQ (show w1.ownsRow (w.heap.size+1) nD 1 v (aL 59 l).length (iQ (aL 59 l)) by simpa using hown)
 have hX1:Ext w w1:=xE
 have HZ1:Hid (Blk w1 w.heap.size iH #[.int .i64 0,.int .i64 0,.slice none 0 0,.int .i64 0,.int .i64 0,.int .i64 0,.int .i64 0,.int .i64 0,.int .i64 0,.slice none 0 0]):=(Blk.new w _ _).ext h1
 have hz1:w.heap.size<w1.heap.size:=HZ1.out.lt
 have HX1:=xQ hX1
 clear hown h1 hX1
 obtain⟨gr,cr,rfl⟩:=Joins.ownsRow_form hown1.out hpos
 generalize hRq:(aL 59 l).length=R at*
 have HRq:=xQ hRq
 clear hRq
 have X1:=xQ (Ext.refl w1)
 by_cases hR3:R<4
 ·have hno:Hid (aW l=none):=mB (by unfold dD;rw[HRq.out];simp;omega)
  have hR3':(R:Int)<4:=by omega
  obtain⟨z0,zf0,z1,zf1,z2,zf2,z3,zf3,z4,zf4,z5,zf5,z6,zf6,z7,zf7,z8,zf8,z9,zf9⟩:=((HZ1.out.ext (Ext.refl w1))).tenf
  have hzz:w.heap.size<w1.heap.size:=(HZ1.out.ext (Ext.refl w1)).lt
  go_wp2
  generalize hw9:World.setCell _ _ _=w9
  obtain⟨Y9,hR9,X9⟩:=(HZ1.out.ext (Ext.refl w1)).putx (HX1.out.trans (Ext.refl w1)) hw9
  clear hw9 hR9 z0 z1 z2 z3 z4 z5 z6 z7 z8 z9 zf0 zf1 zf2 zf3 zf4 zf5 zf6 zf7 zf8 zf9
  obtain⟨y0,y1,y2,y3,y4,y5,y6,y7,y8,y9⟩:=(Y9).ten
  exact bodyPost_ret (v:= .tuple #[.agg #[.int .i64 0,.int .i64 0,.slice none 0 0,.int .i64 0,.int .i64 0,.int .i64 0,.int .i64 0,.int .i64 0,.int .i64 0,.slice none 0 0],.bool false]) (by simp[results,Tryz.results39,go_sem, *]) rfl (eJ hno.out X9)
 ·have hR3': ¬(R:Int)<4:=by omega
  obtain⟨p0,hp0⟩: ∃q,(aL 59 l)[0]? =some q:=⟨_,List.getElem?_eq_getElem (by rw[HRq.out];omega)⟩
  have HP0:=xQ hp0
  have PA0:Hid (eO (aL 59 l) 0=p0):=iU hp0
  have hl0:p0.length<4294967281:=HL.out p0 (List.mem_of_getElem? hp0)
  clear hp0
  obtain⟨p1,hp1⟩: ∃q,(aL 59 l)[1]? =some q:=⟨_,List.getElem?_eq_getElem (by rw[HRq.out];omega)⟩
  have HP1:=xQ hp1
  have PA1:Hid (eO (aL 59 l) 1=p1):=iU hp1
  have hl1:p1.length<4294967281:=HL.out p1 (List.mem_of_getElem? hp1)
  clear hp1
  obtain⟨p2,hp2⟩: ∃q,(aL 59 l)[2]? =some q:=⟨_,List.getElem?_eq_getElem (by rw[HRq.out];omega)⟩
  have HP2:=xQ hp2
  have PA2:Hid (eO (aL 59 l) 2=p2):=iU hp2
  have hl2:p2.length<4294967281:=HL.out p2 (List.mem_of_getElem? hp2)
  clear hp2
  obtain⟨p3,hp3⟩: ∃q,(aL 59 l)[3]? =some q:=⟨_,List.getElem?_eq_getElem (by rw[HRq.out];omega)⟩
  have HP3:=xQ hp3
  have PA3:Hid (eO (aL 59 l) 3=p3):=iU hp3
  have hl3:p3.length<4294967281:=HL.out p3 (List.mem_of_getElem? hp3)
  clear hp3
  obtain⟨W,D,xs,b0,H0,H0s⟩: ∃(W D:Int) (xs:List Int) (b:Bool),Hid ((cF p0).getD (0,0,[])=(W,D,xs))∧Hid ((cF p0).isSome=b):=⟨_,_,_,_,rfl,rfl⟩
  have HRH:Hid (∀w,Env w→Calls Tryz.prog 86 #[str p0] w fun e w'=> ∃p n cap,n=xs.length∧e= .returned (.tuple #[aJ W D p n cap,.bool b0])∧w'.ownsRow w.heap.size TI 1 (.slice p n cap) n (ivs xs)∧Ext w w'):=by
   intro w hE
   have h:=aAe p0 w hl0 hE
   unfold mN at h
   rw[H0.out,H0s.out]at h
   exact h
  obtain⟨y1,b1,N1,N1s⟩: ∃(y:List Int) (b:Bool),Hid ((bI 4 p1).getD []=y)∧Hid ((bI 4 p1).isSome=b):=⟨_,_,rfl,rfl⟩
  have HN1:Hid (∀w,Env w→Calls Tryz.prog 87 #[str p1,.int .i64 4] w fun e w'=> ∃p n cap,n=y1.length∧e= .returned (.tuple #[.slice p n cap,.bool b1])∧w'.ownsRow w.heap.size TI 1 (.slice p n cap) n (ivs y1)∧Ext w w'):=by
   intro w hE
   have h:=qV p1 4 w (by omega) (by omega) hl1 hE
   unfold pD at h
   rw[N1.out,N1s.out]at h
   exact h
  obtain⟨y2,b2,N2,N2s⟩: ∃(y:List Int) (b:Bool),Hid ((bI 1 p2).getD []=y)∧Hid ((bI 1 p2).isSome=b):=⟨_,_,rfl,rfl⟩
  have HN2:Hid (∀w,Env w→Calls Tryz.prog 87 #[str p2,.int .i64 1] w fun e w'=> ∃p n cap,n=y2.length∧e= .returned (.tuple #[.slice p n cap,.bool b2])∧w'.ownsRow w.heap.size TI 1 (.slice p n cap) n (ivs y2)∧Ext w w'):=by
   intro w hE
   have h:=qV p2 1 w (by omega) (by omega) hl2 hE
   unfold pD at h
   rw[N2.out,N2s.out]at h
   exact h
  obtain⟨y3,b3,N3,N3s⟩: ∃(y:List Int) (b:Bool),Hid ((bI 1 p3).getD []=y)∧Hid ((bI 1 p3).isSome=b):=⟨_,_,rfl,rfl⟩
  have HN3:Hid (∀w,Env w→Calls Tryz.prog 87 #[str p3,.int .i64 1] w fun e w'=> ∃p n cap,n=y3.length∧e= .returned (.tuple #[.slice p n cap,.bool b3])∧w'.ownsRow w.heap.size TI 1 (.slice p n cap) n (ivs y3)∧Ext w w'):=by
   intro w hE
   have h:=qV p3 1 w (by omega) (by omega) hl3 hE
   unfold pD at h
   rw[N3.out,N3s.out]at h
   exact h
  have hgr1:gr<w1.heap.size:=(hown1.out.lt gr rfl).2
  have e0:w1.cell? ⟨gr,0,none⟩=some (str p0):=cY hown1.out 0 (by omega) _ HP0.out
  go_wp2_with fail
  refine(HRH.out _ (HE.out.ext (HX1.out.trans xE))).mono ?_
  rintro e w2 ⟨p,n,cap,hnx,rfl,oh,hx2⟩
  have LN0:=xQ hnx
  clear hnx
  have X2:=xQ (show Ext w1 w2 from xE)
  have OH2:=xQ (aZ oh (show w1.heap.size≤_ by simp))
  have z2:w1.heap.size≤w2.heap.size:=X2.out.sz
  clear oh hx2 e0
  have hgr2:gr<w2.heap.size:=Nat.lt_of_lt_of_le hgr1 X2.out.sz
  have e1:w2.cell? ⟨gr,1,none⟩=some (str p1):=cY (aO hown1.out X2.out) 1 (by omega) _ HP1.out
  go_wp2_with fail
  refine(HN1.out (w2.alloc (.cells #[.int .i64 W,.int .i64 D,.slice p n cap] jZ)) (HE.out.ext (HX1.out.trans (X2.out.trans ((Ext.refl _).alloc _))))).mono ?_
  rintro e w3 ⟨t1,n1,c1,hn1,rfl,ot1,hx1⟩
  have LN1:=xQ hn1
  clear hn1
  have HB3:=xQ ((Blk.new w2 jZ #[.int .i64 W,.int .i64 D,.slice p n cap]).ext hx1)
  have hy3:Ext w2 w3:=xE
  have X3:=xQ (X2.out.trans hy3)
  have OT13:=xQ (aZ ot1 (show w1.heap.size≤_ by first|(simp;omega)|omega))
  have OH3:=xQ (aO OH2.out hy3)
  have z3:w2.heap.size≤w3.heap.size:=hy3.sz
  clear hx1 hy3 ot1 e1
  have z2lt:w2.heap.size<w3.heap.size:=HB3.out.lt
  have hgr3:gr<w3.heap.size:=Nat.lt_of_lt_of_le hgr1 X3.out.sz
  have e2:w3.cell? ⟨gr,2,none⟩=some (str p2):=cY (aO hown1.out X3.out) 2 (by omega) _ HP2.out
  go_wp2_with fail
  refine(HN2.out w3 (HE.out.ext (HX1.out.trans (X3.out.trans (Ext.refl _))))).mono ?_
  rintro e w4 ⟨t2,n2,c2,hn2,rfl,ot2,hx2⟩
  have LN2:=xQ hn2
  clear hn2
  have hy4:Ext w3 w4:=xE
  have HB4:=xQ (HB3.out.ext hy4)
  have OT14:=xQ (aO OT13.out hy4)
  have X4:=xQ (X3.out.trans hy4)
  have OT24:=xQ (aZ ot2 (show w1.heap.size≤_ by first|(simp;omega)|omega))
  have OH4:=xQ (aO OH3.out hy4)
  have z4:w3.heap.size≤w4.heap.size:=hy4.sz
  clear hx2 hy4 ot2 e2
  have hgr4:gr<w4.heap.size:=Nat.lt_of_lt_of_le hgr1 X4.out.sz
  have e3:w4.cell? ⟨gr,3,none⟩=some (str p3):=cY (aO hown1.out X4.out) 3 (by omega) _ HP3.out
  go_wp2_with fail
  refine(HN3.out w4 (HE.out.ext (HX1.out.trans (X4.out.trans (Ext.refl _))))).mono ?_
  rintro e w5 ⟨t3,n3,c3,hn3,rfl,ot3,hx3⟩
  have LN3:=xQ hn3
  clear hn3
  have hy5:Ext w4 w5:=xE
  have HB5:=xQ (HB4.out.ext hy5)
  have OT15:=xQ (aO OT14.out hy5)
  have OT25:=xQ (aO OT24.out hy5)
  have X5:=xQ (X4.out.trans hy5)
  have OT35:=xQ (aZ ot3 (show w1.heap.size≤_ by first|(simp;omega)|omega))
  have OH5:=xQ (aO OH4.out hy5)
  have z5:w4.heap.size≤w5.heap.size:=hy5.sz
  clear hx3 hy5 ot3 e3
  have z5lt:w2.heap.size<w5.heap.size:=HB5.out.lt
  cases b0 with
  |false=>
   have hno:Hid (aW l=none):=mB (qX ((.inl (by rw[PA0.out,H0s.out]))))
   obtain⟨z0,zf0,z1,zf1,z2,zf2,z3,zf3,z4,zf4,z5,zf5,z6,zf6,z7,zf7,z8,zf8,z9,zf9⟩:=((HZ1.out.ext X5.out)).tenf
   have hzz:w.heap.size<w5.heap.size:=(HZ1.out.ext X5.out).lt
   go_wp2
   generalize hw9:World.setCell _ _ _=w9
   obtain⟨Y9,hR9,X9⟩:=(HZ1.out.ext X5.out).putx (HX1.out.trans X5.out) hw9
   clear hw9 hR9 z0 z1 z2 z3 z4 z5 z6 z7 z8 z9 zf0 zf1 zf2 zf3 zf4 zf5 zf6 zf7 zf8 zf9
   obtain⟨y0,y1,y2,y3,y4,y5,y6,y7,y8,y9⟩:=(Y9).ten
   exact bodyPost_ret (v:= .tuple #[.agg #[.int .i64 0,.int .i64 0,.slice none 0 0,.int .i64 0,.int .i64 0,.int .i64 0,.int .i64 0,.int .i64 0,.int .i64 0,.slice none 0 0],.bool false]) (by simp[results,Tryz.results39,go_sem, *]) rfl (eJ hno.out X9)
  |true=>
   cases b1 with
   |false=>
    have hno:Hid (aW l=none):=mB (qX ((.inr (.inl (by rw[PA1.out,N1s.out])))))
    obtain⟨z0,zf0,z1,zf1,z2,zf2,z3,zf3,z4,zf4,z5,zf5,z6,zf6,z7,zf7,z8,zf8,z9,zf9⟩:=((HZ1.out.ext X5.out)).tenf
    have hzz:w.heap.size<w5.heap.size:=(HZ1.out.ext X5.out).lt
    go_wp2
    generalize hw9:World.setCell _ _ _=w9
    obtain⟨Y9,hR9,X9⟩:=(HZ1.out.ext X5.out).putx (HX1.out.trans X5.out) hw9
    clear hw9 hR9 z0 z1 z2 z3 z4 z5 z6 z7 z8 z9 zf0 zf1 zf2 zf3 zf4 zf5 zf6 zf7 zf8 zf9
    obtain⟨y0,y1,y2,y3,y4,y5,y6,y7,y8,y9⟩:=(Y9).ten
    exact bodyPost_ret (v:= .tuple #[.agg #[.int .i64 0,.int .i64 0,.slice none 0 0,.int .i64 0,.int .i64 0,.int .i64 0,.int .i64 0,.int .i64 0,.int .i64 0,.slice none 0 0],.bool false]) (by simp[results,Tryz.results39,go_sem, *]) rfl (eJ hno.out X9)
   |true=>
    cases b2 with
    |false=>
     have hno:Hid (aW l=none):=mB (qX ((.inr (.inr (.inl (by rw[PA2.out,N2s.out]))))))
     obtain⟨z0,zf0,z1,zf1,z2,zf2,z3,zf3,z4,zf4,z5,zf5,z6,zf6,z7,zf7,z8,zf8,z9,zf9⟩:=((HZ1.out.ext X5.out)).tenf
     have hzz:w.heap.size<w5.heap.size:=(HZ1.out.ext X5.out).lt
     go_wp2
     generalize hw9:World.setCell _ _ _=w9
     obtain⟨Y9,hR9,X9⟩:=(HZ1.out.ext X5.out).putx (HX1.out.trans X5.out) hw9
     clear hw9 hR9 z0 z1 z2 z3 z4 z5 z6 z7 z8 z9 zf0 zf1 zf2 zf3 zf4 zf5 zf6 zf7 zf8 zf9
     obtain⟨y0,y1,y2,y3,y4,y5,y6,y7,y8,y9⟩:=(Y9).ten
     exact bodyPost_ret (v:= .tuple #[.agg #[.int .i64 0,.int .i64 0,.slice none 0 0,.int .i64 0,.int .i64 0,.int .i64 0,.int .i64 0,.int .i64 0,.int .i64 0,.slice none 0 0],.bool false]) (by simp[results,Tryz.results39,go_sem, *]) rfl (eJ hno.out X9)
    |true=>
     cases b3 with
     |false=>
      have hno:Hid (aW l=none):=mB (qX ((.inr (.inr (.inr (by rw[PA3.out,N3s.out]))))))
      obtain⟨z0,zf0,z1,zf1,z2,zf2,z3,zf3,z4,zf4,z5,zf5,z6,zf6,z7,zf7,z8,zf8,z9,zf9⟩:=((HZ1.out.ext X5.out)).tenf
      have hzz:w.heap.size<w5.heap.size:=(HZ1.out.ext X5.out).lt
      go_wp2
      generalize hw9:World.setCell _ _ _=w9
      obtain⟨Y9,hR9,X9⟩:=(HZ1.out.ext X5.out).putx (HX1.out.trans X5.out) hw9
      clear hw9 hR9 z0 z1 z2 z3 z4 z5 z6 z7 z8 z9 zf0 zf1 zf2 zf3 zf4 zf5 zf6 zf7 zf8 zf9
      obtain⟨y0,y1,y2,y3,y4,y5,y6,y7,y8,y9⟩:=(Y9).ten
      exact bodyPost_ret (v:= .tuple #[.agg #[.int .i64 0,.int .i64 0,.slice none 0 0,.int .i64 0,.int .i64 0,.int .i64 0,.int .i64 0,.int .i64 0,.int .i64 0,.slice none 0 0],.bool false]) (by simp[results,Tryz.results39,go_sem, *]) rfl (eJ hno.out X9)
     |true=>
      obtain⟨o0,ho0⟩:=Option.isSome_iff_exists.1 H0s.out
      have HO0:=xQ ho0
      obtain⟨xx1,ho1⟩:=Option.isSome_iff_exists.1 N1s.out
      obtain⟨xx2,ho2⟩:=Option.isSome_iff_exists.1 N2s.out
      obtain⟨xx3,ho3⟩:=Option.isSome_iff_exists.1 N3s.out
      have hy1:xx1=y1:=by have:=N1.out;rw[ho1]at this;exact this
      have hy2:xx2=y2:=by have:=N2.out;rw[ho2]at this;exact this
      have hy3:xx3=y3:=by have:=N3.out;rw[ho3]at this;exact this
      subst hy1;subst hy2;subst hy3
      have q2:=aC4 ho2
      have q3:=aC4 ho3
      obtain⟨f,s,pr,cp,q1⟩:=oS (aC7 ho1)
      subst q1;subst q2;subst q3
      have HO1:=xQ ho1
      have HO2:=xQ ho2
      have HO3:=xQ ho3
      obtain⟨ck,hck⟩: ∃x,eF p2=x:=⟨_,rfl⟩
      obtain⟨bk,hbk⟩: ∃x,eF p3=x:=⟨_,rfl⟩
      have HCK:=xQ hck
      have HBK:=xQ hbk
      rw[hck]at OT25
      rw[hbk]at OT35
      clear ho0 ho1 ho2 ho3 hck hbk N1 N1s N2 N2s N3 N3s HN1 HN2 HN3 HRH
      have hn1:=LN1.out
      have hn2:=LN2.out
      have hn3:=LN3.out
      clear LN1 LN2 LN3
      simp only[List.length_cons,List.length_nil,Nat.zero_add]at hn1 hn2 hn3
      subst hn1;subst hn2;subst hn3
      obtain⟨g1,c1',hg1⟩:=Joins.ownsRow_form OT15.out (by omega)
      obtain⟨g2,c2',hg2⟩:=Joins.ownsRow_form OT25.out (by omega)
      obtain⟨g3,c3',hg3⟩:=Joins.ownsRow_form OT35.out (by omega)
      injection hg1 with hg1 _ hg1'
      injection hg2 with hg2 _ hg2'
      injection hg3 with hg3 _ hg3'
      subst hg1;subst hg2;subst hg3;subst hg1';subst hg2';subst hg3'
      have t0:w5.cell? ⟨g1,0,none⟩=some (.int .i64 f):=bY OT15.out 0 (by omega) _ rfl
      have t1:w5.cell? ⟨g1,1,none⟩=some (.int .i64 s):=bY OT15.out 1 (by omega) _ rfl
      have t2:w5.cell? ⟨g1,2,none⟩=some (.int .i64 pr):=bY OT15.out 2 (by omega) _ rfl
      have t3:w5.cell? ⟨g1,3,none⟩=some (.int .i64 cp):=bY OT15.out 3 (by omega) _ rfl
      have t4:w5.cell? ⟨g2,0,none⟩=some (.int .i64 ck):=bY OT25.out 0 (by omega) _ rfl
      have t5:w5.cell? ⟨g3,0,none⟩=some (.int .i64 bk):=bY OT35.out 0 (by omega) _ rfl
      obtain⟨v0,v1,v2⟩:=(HB5.out).tri
      have hg1:=(OT15.out.lt g1 rfl).2
      have hg2:=(OT25.out.lt g2 rfl).2
      have hg3:=(OT35.out.lt g3 rfl).2
      have hle:R≤cr:=(Sl.own hown1.out).le
      go_wp2
      go_region_held3 (fun w'=>w'.cell? ⟨g1,0,none⟩=some (.int .i64 f)∧w'.cell? ⟨g1,1,none⟩=some (.int .i64 s)∧w'.cell? ⟨g1,2,none⟩=some (.int .i64 pr)∧w'.cell? ⟨g1,3,none⟩=some (.int .i64 cp)∧w'.cell? ⟨g2,0,none⟩=some (.int .i64 ck)∧w'.cell? ⟨g3,0,none⟩=some (.int .i64 bk)∧w'.cell? ⟨w2.heap.size,0,none⟩=some (.int .i64 W)∧w'.cell? ⟨w2.heap.size,1,none⟩=some (.int .i64 D)∧w'.cell? ⟨w2.heap.size,2,none⟩=some (.slice p n cap)) (first|(refine⟨?_,?_,?_,?_,?_,?_,?_,?_,?_⟩<;>assumption)|go_keep) (fail)
      generalize hw6:World.drew _=w6
      have B6:Hid (Blk w6 w5.heap.size iH #[.int .i64 W,.int .i64 D,.slice p n cap,.int .i64 f,.int .i64 s,.int .i64 pr,.int .i64 cp,.int .i64 ck,.int .i64 bk,.slice none 0 0]):=by show Blk _ _ _ _;rw[←hw6];exact(Blk.new _ _ _).ext (Ext.drew (Ext.refl _))
      have X6:Ext w5 w6:=by rw[←hw6];exact((Ext.refl w5).alloc _).drew
      clear hw6 t0 t1 t2 t3 t4 t5 v0 v1 v2 hg1 hg2 hg3
      have HXB:=xQ X6
      have z6:w5.heap.size<w6.heap.size:=B6.out.lt
      obtain⟨N,rfl⟩: ∃N,R=N+4:=⟨R-4,by omega⟩
      obtain⟨C,rfl⟩: ∃C,cr=C+4:=⟨cr-4,by omega⟩
      have hNC:N≤C:=by omega
      go_wp2
      all_goals
       have HRN:Hid ((aL 59 l).length=N+4):=HRq.out
       go_loopw [91] (fun i wr=> ∃(k:Nat) (q:Option Addr) (d:Nat),k≤N∧i= .int .i64 k∧Ext w5 wr∧Blk wr w5.heap.size iH #[.int .i64 W,.int .i64 D,.slice p n cap,.int .i64 f,.int .i64 s,.int .i64 pr,.int .i64 cp,.int .i64 ck,.int .i64 bk,.slice q k d]∧wr.ownsRow (w5.heap.size+1) pG 4 (.slice q k d) k ((cZ (aL 59 l) k).flatMap aE)∧ ∀q∈((aL 59 l).drop 4).take k,(bI 4 q).isSome=true) (fun i _=>N-(intOf i).toNat)
       case atStart=>exact⟨0,none,0,Nat.zero_le _,rfl,HXB.out,B6.out,World.ownsRow_nil _ _ _ _,by simp⟩
       case round=>
        obtain⟨k,q,d,hk,rfl,hEr,hB,hO,hfn⟩:=hrel
        have XR:=xQ hEr
        have BR:=xQ hB
        have OR:=xQ hO
        have HF:=xQ hfn
        have hzr:w5.heap.size<wr.heap.size:=hB.lt
        clear hEr hB hO hfn
        by_cases hlt:k<N
        ·first
          |(exfalso;omega)
          |(skip
            obtain⟨x,hx⟩: ∃q,(aL 59 l)[4+k]? =some q:=⟨_,List.getElem?_eq_getElem (by rw[HRN.out];omega)⟩
            have HXq:=xQ hx
            have hxl:x.length<4294967281:=HL.out x (List.mem_of_getElem? hx)
            have XWR:=xQ (X5.out.trans XR.out)
            have e1:wr.cell? ⟨gr,4+k,none⟩=some (str x):=cY (aO hown1.out XWR.out) (4+k) (by omega) _ hx
            have hgrr:gr<wr.heap.size:=Nat.lt_of_lt_of_le hgr1 XWR.out.sz
            clear hx
            have i1:(0:Int)≤(k:Int):=by omega
            have i2:(k:Int)<(N:Int):=by omega
            obtain⟨yv,bv,NV,NVs⟩: ∃(y:List Int) (b:Bool),Hid ((bI 4 x).getD []=y)∧Hid ((bI 4 x).isSome=b):=⟨_,_,rfl,rfl⟩
            have HNV:Hid (∀w,Env w→Calls Tryz.prog 87 #[str x,.int .i64 4] w fun e w'=> ∃p n cap,n=yv.length∧e= .returned (.tuple #[.slice p n cap,.bool bv])∧w'.ownsRow w.heap.size TI 1 (.slice p n cap) n (ivs yv)∧Ext w w'):=by
             intro w hE
             have h:=qV x 4 w (by omega) (by omega) hxl hE
             unfold pD at h
             rw[NV.out,NVs.out]at h
             exact h
            go_wp2_with fail
            refine(HNV.out wr (HE.out.ext (HX1.out.trans XWR.out))).mono ?_
            rintro e w7 ⟨tv,nv,cv,hnv,rfl,otv,hx7⟩
            have LNV:=xQ hnv
            have X7:=xQ (XR.out.trans hx7)
            have B7:=xQ (BR.out.ext hx7)
            have O7:=xQ (aO OR.out hx7)
            have OV7:=xQ (aZ otv (show w5.heap.size+1≤_ by omega))
            have hz7:w5.heap.size<w7.heap.size:=B7.out.lt
            clear hnv hx7 otv e1
            cases bv with
            |false=>
             have hno:Hid (aW l=none):=mB (aGn HXq.out (by have:=NVs.out;cases hq:bI 4 x with|none=>rfl|some z=>rw[hq]at this;simp at this))
             have X7':=xQ (X5.out.trans X7.out)
             obtain⟨z0,zf0,z1,zf1,z2,zf2,z3,zf3,z4,zf4,z5,zf5,z6,zf6,z7,zf7,z8,zf8,z9,zf9⟩:=((HZ1.out.ext X7'.out)).tenf
             have hzz:w.heap.size<w7.heap.size:=(HZ1.out.ext X7'.out).lt
             go_wp2
             generalize hw9:World.setCell _ _ _=w9
             obtain⟨Y9,hR9,X9⟩:=(HZ1.out.ext X7'.out).putx (HX1.out.trans X7'.out) hw9
             clear hw9 hR9 z0 z1 z2 z3 z4 z5 z6 z7 z8 z9 zf0 zf1 zf2 zf3 zf4 zf5 zf6 zf7 zf8 zf9
             obtain⟨y0,y1,y2,y3,y4,y5,y6,y7,y8,y9⟩:=(Y9).ten
             exact bodyPost_ret (v:= .tuple #[.agg #[.int .i64 0,.int .i64 0,.slice none 0 0,.int .i64 0,.int .i64 0,.int .i64 0,.int .i64 0,.int .i64 0,.int .i64 0,.slice none 0 0],.bool false]) (by simp[results,Tryz.results39,go_sem, *]) rfl (eJ hno.out X9)
            |true=>
             obtain⟨yy,hyy⟩:=Option.isSome_iff_exists.1 NVs.out
             have hy1:yy=yv:=by have:=NV.out;rw[hyy]at this;exact this
             subst hy1
             obtain⟨a0,a1,a2,a3,q1⟩:=oS (aC7 hyy)
             subst q1
             have HYY:=xQ hyy
             have hnv:=LNV.out
             clear hyy LNV NV NVs HNV
             simp only[List.length_cons,List.length_nil,Nat.zero_add]at hnv
             subst hnv
             obtain⟨gv,cv',hgv⟩:=Joins.ownsRow_form OV7.out (by omega)
             injection hgv with hgv _ hgv'
             subst hgv;subst hgv'
             have t0:w7.cell? ⟨gv,0,none⟩=some (.int .i64 a0):=bY OV7.out 0 (by omega) _ rfl
             have t1:w7.cell? ⟨gv,1,none⟩=some (.int .i64 a1):=bY OV7.out 1 (by omega) _ rfl
             have t2:w7.cell? ⟨gv,2,none⟩=some (.int .i64 a2):=bY OV7.out 2 (by omega) _ rfl
             have t3:w7.cell? ⟨gv,3,none⟩=some (.int .i64 a3):=bY OV7.out 3 (by omega) _ rfl
             have v9:w7.cell? ⟨w5.heap.size,9,none⟩=some (.slice q k d):=B7.out.cell 9
             have vf9:w7.frozen? ⟨w5.heap.size,9,none⟩=false:=B7.out.frozen 9
             have hgv:=(OV7.out.lt gv rfl).2
             have hgn: ¬gv=w5.heap.size:=by have:=(OV7.out.lt gv rfl).1;omega
             have hkb:k≤1048577:=by omega
             go_wp2
             refine cM (gl [gEq (.pointer (some ⟨w5.heap.size,9,none⟩)),gEq (.slice q k d),gEq (.slice (some ⟨gv,0,none⟩) 4 cv),gEq (.pointer (some ⟨gv,0,none⟩)),gEq (.int .i64 a0),gEq (.slice (some ⟨gv,0,none⟩) 4 cv),gEq (.pointer (some ⟨gv,1,none⟩)),gEq (.int .i64 a1),gEq (.slice (some ⟨gv,0,none⟩) 4 cv),gEq (.pointer (some ⟨gv,2,none⟩)),gEq (.int .i64 a2),gEq (.slice (some ⟨gv,0,none⟩) 4 cv),gEq (.pointer (some ⟨gv,3,none⟩)),gEq (.int .i64 a3),gEq (.agg #[.int .i64 a1,.int .i64 a2,.int .i64 a3]),gEq (.agg #[.int .i64 a0,.int .i64 a1,.int .i64 a2,.int .i64 a3]),xP (0) pG #[.int .i64 a0,.int .i64 a1,.int .i64 a2,.int .i64 a3] 1]) 17 (by kernel_rfl) rfl (by kernel_rfl) (by kernel_rfl) (by kernel_rfl) (eG (aG (aF _) (aG (aF _) (aG (aF _) (aG (aF _) (aG (aF _) (aG (aF _) (aG (aF _) (aG (aF _) (aG (aF _) (aG (aF _) (aG (aF _) (aG (aF _) (aG (aF _) (aG (aF _) (aG (aF _) (aG (aF _) (aG (jH _ _ _ _) (fN))))))))))))))))))) (k:=20) (by kernel_rfl) (by decide) (ls:= [(0,some 103),(1,some 104),(2,some 105),(3,some 106),(4,some 107),(5,some 108),(6,some 109),(7,some 110),(8,some 111),(9,some 112),(10,some 113),(11,some 114),(12,some 115),(13,some 116),(14,some 117),(15,some 118),(16,some 119)]) (by kernel_rfl) (ir:= [0,1,2,3,4,5,6,7,8,9,10,11,12,13,14,15,16]) (by kernel_rfl) ?steps (tl:=#[true,true,true,true,true,true,true,true,true,true,true,true,true,true,true,true,true,false,false,false]) (by kernel_rfl) ?fin
             case steps=>
              refine sC [] rfl (fun wi hx=> ?_) ?_
              ·intro K hK
               go_simp
               exact hK _ _ ⟨.pointer (some ⟨w5.heap.size,9,none⟩),rfl,rfl,Ext.refl _⟩
              refine sC [(0,some 103)] rfl (fun wi hx=> ?_) ?_
              ·intro v0 h0 K hK
               obtain rfl:=h0
               have hX:Ext w7 wi:=xE
               have v9:wi.cell? ⟨w5.heap.size,9,none⟩=some (.slice q k d):=(B7.out.ext hX).cell 9
               go_simp
               exact hK _ _ ⟨.slice q k d,rfl,rfl,Ext.refl _⟩
              refine sC [] rfl (fun wi hx=> ?_) ?_
              ·intro K hK
               go_simp
               exact hK _ _ ⟨.slice (some ⟨gv,0,none⟩) 4 cv,rfl,rfl,Ext.refl _⟩
              refine sC [(2,some 105)] rfl (fun wi hx=> ?_) ?_
              ·intro v2 h2 K hK
               obtain rfl:=h2
               go_simp
               exact hK _ _ ⟨.pointer (some ⟨gv,0,none⟩),rfl,rfl,Ext.refl _⟩
              refine sC [(3,some 106)] rfl (fun wi hx=> ?_) ?_
              ·intro v3 h3 K hK
               obtain rfl:=h3
               have hX:Ext w7 wi:=xE
               have t0:wi.cell? ⟨gv,0,none⟩=some (.int .i64 a0):=bY (aO OV7.out hX) 0 (by omega) _ rfl
               go_simp
               exact hK _ _ ⟨.int .i64 a0,rfl,rfl,Ext.refl _⟩
              refine sC [] rfl (fun wi hx=> ?_) ?_
              ·intro K hK
               go_simp
               exact hK _ _ ⟨.slice (some ⟨gv,0,none⟩) 4 cv,rfl,rfl,Ext.refl _⟩
              refine sC [(5,some 108)] rfl (fun wi hx=> ?_) ?_
              ·intro v5 h5 K hK
               obtain rfl:=h5
               go_simp
               exact hK _ _ ⟨.pointer (some ⟨gv,1,none⟩),rfl,rfl,Ext.refl _⟩
              refine sC [(6,some 109)] rfl (fun wi hx=> ?_) ?_
              ·intro v6 h6 K hK
               obtain rfl:=h6
               have hX:Ext w7 wi:=xE
               have t0:wi.cell? ⟨gv,1,none⟩=some (.int .i64 a1):=bY (aO OV7.out hX) 1 (by omega) _ rfl
               go_simp
               exact hK _ _ ⟨.int .i64 a1,rfl,rfl,Ext.refl _⟩
              refine sC [] rfl (fun wi hx=> ?_) ?_
              ·intro K hK
               go_simp
               exact hK _ _ ⟨.slice (some ⟨gv,0,none⟩) 4 cv,rfl,rfl,Ext.refl _⟩
              refine sC [(8,some 111)] rfl (fun wi hx=> ?_) ?_
              ·intro v8 h8 K hK
               obtain rfl:=h8
               go_simp
               exact hK _ _ ⟨.pointer (some ⟨gv,2,none⟩),rfl,rfl,Ext.refl _⟩
              refine sC [(9,some 112)] rfl (fun wi hx=> ?_) ?_
              ·intro v9 h9 K hK
               obtain rfl:=h9
               have hX:Ext w7 wi:=xE
               have t0:wi.cell? ⟨gv,2,none⟩=some (.int .i64 a2):=bY (aO OV7.out hX) 2 (by omega) _ rfl
               go_simp
               exact hK _ _ ⟨.int .i64 a2,rfl,rfl,Ext.refl _⟩
              refine sC [] rfl (fun wi hx=> ?_) ?_
              ·intro K hK
               go_simp
               exact hK _ _ ⟨.slice (some ⟨gv,0,none⟩) 4 cv,rfl,rfl,Ext.refl _⟩
              refine sC [(11,some 114)] rfl (fun wi hx=> ?_) ?_
              ·intro v11 h11 K hK
               obtain rfl:=h11
               go_simp
               exact hK _ _ ⟨.pointer (some ⟨gv,3,none⟩),rfl,rfl,Ext.refl _⟩
              refine sC [(12,some 115)] rfl (fun wi hx=> ?_) ?_
              ·intro v12 h12 K hK
               obtain rfl:=h12
               have hX:Ext w7 wi:=xE
               have t0:wi.cell? ⟨gv,3,none⟩=some (.int .i64 a3):=bY (aO OV7.out hX) 3 (by omega) _ rfl
               go_simp
               exact hK _ _ ⟨.int .i64 a3,rfl,rfl,Ext.refl _⟩
              refine sC [(7,some 110),(10,some 113),(13,some 116)] rfl (fun wi hx=> ?_) ?_
              ·intro v7 h7 v10 h10 v13 h13 K hK
               obtain rfl:=h7
               obtain rfl:=h10
               obtain rfl:=h13
               go_simp
               exact hK _ _ ⟨.agg #[.int .i64 a1,.int .i64 a2,.int .i64 a3],rfl,rfl,Ext.refl _⟩
              refine sC [(4,some 107),(14,some 117)] rfl (fun wi hx=> ?_) ?_
              ·intro v4 h4 v14 h14 K hK
               obtain rfl:=h4
               obtain rfl:=h14
               go_simp
               exact hK _ _ ⟨.agg #[.int .i64 a0,.int .i64 a1,.int .i64 a2,.int .i64 a3],rfl,rfl,Ext.refl _⟩
              refine sC [(15,some 118)] rfl (fun wi hx=> ?_) StepsL.nil
              ·intro v15 h15 K hK
               obtain rfl:=h15
               go_simp
               exact hK _ _ ⟨.slice (some ⟨wi.heap.size,0,none⟩) 1 1,rfl,⟨wi.heap.size,rfl,Nat.zero_le _,Blk.new _ _ _⟩,(Ext.refl _).alloc _⟩
             case fin=>
              intro wi hx v0 h0 v1 h1 v2 h2 v3 h3 v4 h4 v5 h5 v6 h6 v7 h7 v8 h8 v9 h9 v10 h10 v11 h11 v12 h12 v13 h13 v14 h14 v15 h15 v16 h16
              obtain rfl:=h0
              obtain rfl:=h1
              obtain rfl:=h2
              obtain rfl:=h3
              obtain rfl:=h4
              obtain rfl:=h5
              obtain rfl:=h6
              obtain rfl:=h7
              obtain rfl:=h8
              obtain rfl:=h9
              obtain rfl:=h10
              obtain rfl:=h11
              obtain rfl:=h12
              obtain rfl:=h13
              obtain rfl:=h14
              obtain rfl:=h15
              obtain⟨g16,rfl,hg16,B16⟩:=h16
              have hX:Ext w7 wi:=xE
              have XF:Ext w5 wi:=X7.out.trans hX
              have BF:=B7.out.ext hX
              have OF:=aO O7.out hX
              have OVF:=aO OV7.out hX
              clear hX hx hg16
              simp only[Act.put,List.setIfInBounds_toArray,List.set_cons_zero,List.set_cons_succ]
              refine wpAny_ready (rs:= [17]) (by kernel_rfl) (by simp) ?_
              refine AllReady.cons rfl (fun K hK=> ?_) AllReady.nil
              refine eK _ aKh rfl (.tmp 104) (.tmp 119) rfl (w5.heap.size+1) (.slice q k d) k _ rfl OF (some ⟨g16,0,none⟩) 1 1 (aE (a0,a1,a2,a3)) rfl (Sl.blkS B16) (aF1 _) (by omega) (by have:=BF.lt;omega) (fun p2 cap2 w8 hown8 hgrow8=>hK _ _ ?_)
              clear hK K
              obtain⟨X8,B8⟩:=wR XF BF (by decide) OF (by omega) hgrow8
              have OV8:=wQ OF hgrow8 OVF (by decide)
              clear hgrow8 XF BF OF OVF B16
              have x9:w8.cell? ⟨w5.heap.size,9,none⟩=some (.slice q k d):=B8.cell 9
              have xf9:w8.frozen? ⟨w5.heap.size,9,none⟩=false:=B8.frozen 9
              have hz8:w5.heap.size<w8.heap.size:=B8.lt
              try simp only[Act.put,List.setIfInBounds_toArray,List.set_cons_zero,List.set_cons_succ]
              refine wpAny_ready (rs:= [18]) (by kernel_rfl) (by simp) ?_
              refine AllReady.cons rfl (fun K hK=> ?_) AllReady.nil
              go_simp
              refine hK _ _ ?_
              clear hK K
              refine wpAny_ready (rs:= [19]) (by kernel_rfl) (by simp) ?_
              refine AllReady.cons rfl (fun K hK=> ?_) AllReady.nil
              go_simp
              refine hK _ _ ?_
              clear hK K
              refine wpAny_done (by kernel_rfl) ?_ _
              have HFN:Hid (∀q∈((aL 59 l).drop 4).take (k+1),(bI 4 q).isSome=true):=by
               have e:((aL 59 l).drop 4)[k]? =some x:=by rw[List.getElem?_drop];exact HXq.out
               rw[xQ (bF e)]
               intro y hy
               rcases List.mem_append.1 hy with h|h
               ·exact HF.out y h
               ·obtain rfl:y=x:=by simpa using h
                rw[HYY.out];rfl
              have HVS:Hid (cZ (aL 59 l) (k+1)=cZ (aL 59 l) k++ [(a0,a1,a2,a3)]):=by
               show _=_
               rw[pH HXq.out,(kP HYY.out).1];rfl
              have B9:=xQ (show Blk (w8.setCell ⟨w5.heap.size,9,none⟩ (.slice p2 (k+1) cap2)) w5.heap.size iH #[.int .i64 W,.int .i64 D,.slice p n cap,.int .i64 f,.int .i64 s,.int .i64 pr,.int .i64 cp,.int .i64 ck,.int .i64 bk,.slice p2 (k+1) cap2] by have:=B8.set 9 (.slice p2 (k+1) cap2);simpa using this)
              have O9:=xQ (show(w8.setCell ⟨w5.heap.size,9,none⟩ (.slice p2 (k+1) cap2)).ownsRow (w5.heap.size+1) pG 4 (.slice p2 (k+1) cap2) (k+1) ((cZ (aL 59 l) (k+1)).flatMap aE) by
               rw[HVS.out,List.flatMap_append]
               have:=fW (i:=9) (u:= .slice p2 (k+1) cap2) B8 hown8 (by decide)
               simpa using this)
              have X9:Ext w5 (w8.setCell ⟨w5.heap.size,9,none⟩ (.slice p2 (k+1) cap2)):=X8.setCell (Nat.le_refl _) _
              clear hown8 OV8 B8 X8 t0 t1 t2 t3 v9 vf9 x9 xf9
              go_wp2
              go_roundw
              case rel=>
               first
                |exact⟨k+1,p2,cap2,by omega,by go_num,X9,B9.out,O9.out,HFN.out⟩
                |((repeat apply Exists.intro);refine⟨⟨k+1,p2,cap2,by omega,by go_num,X9,B9.out,O9.out,HFN.out⟩,rfl⟩)
              case measure=>simp[intOf];omega)
        ·obtain rfl:k=N:=by omega
         have HT:Hid (((aL 59 l).drop 4).take k=(aL 59 l).drop 4):=List.take_of_length_le (by rw[List.length_drop,HRN.out];omega)
         have hfine:dD (aL 59 l)=true:=by
          rw[aIs (by rw[HRN.out];omega) (by rw[PA0.out];exact HO0.out) (by rw[PA1.out];exact HO1.out) (by rw[PA2.out];exact HO2.out) (by rw[PA3.out];exact HO3.out),List.all_eq_true]
          have:=HF.out
          rwa[HT.out]at this
         have HHP:Hid (cI (aL 59 l)=⟨W,D,xs,f,s,pr,cp,ck,bk,cZ (aL 59 l) k⟩):=by
          show _=_
          rw[vL (W:=W) (D:=D) (xs:=xs) HRN.out (by rw[PA0.out];exact H0.out) (t:= [f,s,pr,cp]) (by rw[PA1.out];exact(kP HO1.out).1),PA2.out,PA3.out,HCK.out,HBK.out]
          rfl
         have HRV:=xQ (vF hfine)
         rw[HHP.out]at HRV
         have HVL:Hid (k=(cZ (aL 59 l) k).length):=(qC HRN.out (Nat.le_refl _)).symm
         clear hfine HF HT
         generalize hvs:cZ (aL 59 l) k=vs at*
         clear hvs
         have XRR:=xQ (X5.out.trans XR.out)
         have OHR:=xQ (aO OH5.out XR.out)
         have HI:Hid (IsHouse wr ⟨W,D,xs,f,s,pr,cp,ck,bk,vs⟩ p n cap q k d):=⟨Sl.own OHR.out,Sl.own OR.out⟩
         have HV:Hid (∀(w':World),Ext wr w'→Calls Tryz.prog 16 #[.agg #[.int .i64 W,.int .i64 D,.slice p n cap,.int .i64 f,.int .i64 s,.int .i64 pr,.int .i64 cp,.int .i64 ck,.int .i64 bk,.slice q k d]] w' fun e w''=>e= .returned (.bool (bN ⟨W,D,xs,f,s,pr,cp,ck,bk,vs⟩))∧Ext w' w''):=fun w' hx=>kO ⟨W,D,xs,f,s,pr,cp,ck,bk,vs⟩ p n cap q k d w' (HI.out.ext hx)
         have HT:Hid (∀(w':World),Ext wr w'→Env w'→Calls Tryz.prog 46 #[.agg #[.int .i64 W,.int .i64 D,.slice p n cap,.int .i64 f,.int .i64 s,.int .i64 pr,.int .i64 cp,.int .i64 ck,.int .i64 bk,.slice q k d]] w' fun e w''=>e= .returned (str (aU ⟨W,D,xs,f,s,pr,cp,ck,bk,vs⟩))∧Ext w' w''):=fun w' hx hE=>jN ⟨W,D,xs,f,s,pr,cp,ck,bk,vs⟩ p n cap q k d w' hE (HI.out.ext hx)
         generalize hhok:bN ⟨W,D,xs,f,s,pr,cp,ck,bk,vs⟩=ok at*
         generalize hht:aU ⟨W,D,xs,f,s,pr,cp,ck,bk,vs⟩=t at*
         clear hhok hht
         obtain⟨b0,b1,b2,b3,b4,b5,b6,b7,b8,b9⟩:=(BR.out).ten
         cases ok with
         |false=>
          have hno:Hid (aW l=none):=by show _=_;rw[HRV.out];simp
          go_wp2_with fail
          refine(HV.out _ xE).mono ?_
          rintro e w7 ⟨rfl,h7⟩
          clear b0 b1 b2 b3 b4 b5 b6 b7 b8 b9
          have X7':=xQ (XRR.out.trans (show Ext wr w7 from xE))
          clear h7
          obtain⟨z0,zf0,z1,zf1,z2,zf2,z3,zf3,z4,zf4,z5,zf5,z6,zf6,z7,zf7,z8,zf8,z9,zf9⟩:=((HZ1.out.ext X7'.out)).tenf
          have hzz:w.heap.size<w7.heap.size:=(HZ1.out.ext X7'.out).lt
          go_wp2
          generalize hw9:World.setCell _ _ _=w9
          obtain⟨Y9,hR9,X9⟩:=(HZ1.out.ext X7'.out).putx (HX1.out.trans X7'.out) hw9
          clear hw9 hR9 z0 z1 z2 z3 z4 z5 z6 z7 z8 z9 zf0 zf1 zf2 zf3 zf4 zf5 zf6 zf7 zf8 zf9
          obtain⟨y0,y1,y2,y3,y4,y5,y6,y7,y8,y9⟩:=(Y9).ten
          exact bodyPost_ret (v:= .tuple #[.agg #[.int .i64 0,.int .i64 0,.slice none 0 0,.int .i64 0,.int .i64 0,.int .i64 0,.int .i64 0,.int .i64 0,.int .i64 0,.slice none 0 0],.bool false]) (by simp[results,Tryz.results39,go_sem, *]) rfl (eJ hno.out X9)
         |true=>
          go_wp2_with fail
          refine(HV.out _ xE).mono ?_
          rintro e w7 ⟨rfl,h7⟩
          clear b0 b1 b2 b3 b4 b5 b6 b7 b8 b9
          have hy7:Ext wr w7:=xE
          have B7:=xQ (BR.out.ext hy7)
          have hz7:w5.heap.size<w7.heap.size:=B7.out.lt
          have HY7:=xQ hy7
          clear h7 hy7
          obtain⟨b0,b1,b2,b3,b4,b5,b6,b7,b8,b9⟩:=(B7.out).ten
          go_wp2_with fail
          refine(HT.out _ (HY7.out.trans xE) (HE.out.ext (HX1.out.trans (XRR.out.trans (HY7.out.trans xE))))).mono ?_
          rintro e w8 ⟨rfl,h8⟩
          clear b0 b1 b2 b3 b4 b5 b6 b7 b8 b9
          have hy8:Ext w7 w8:=xE
          have B8:=xQ (B7.out.ext hy8)
          have hz8:w5.heap.size<w8.heap.size:=B8.out.lt
          have HY8:=xQ (HY7.out.trans hy8)
          have X8':=xQ (XRR.out.trans HY8.out)
          clear h8 hy8
          by_cases ht:t=l
          ·have hd2:(t==l)=true:=by simp[ht]
           have hyes:Hid (aW l=some ⟨W,D,xs,f,s,pr,cp,ck,bk,vs⟩):=by show _=_;rw[HRV.out];simp[ht]
           clear ht
           obtain⟨b0,b1,b2,b3,b4,b5,b6,b7,b8,b9⟩:=(B8.out).ten
           obtain⟨z0,zf0,z1,zf1,z2,zf2,z3,zf3,z4,zf4,z5,zf5,z6,zf6,z7,zf7,z8,zf8,z9,zf9⟩:=((HZ1.out.ext X8'.out)).tenf
           have hzz:w.heap.size<w8.heap.size:=(HZ1.out.ext X8'.out).lt
           have hne: ¬w.heap.size=w5.heap.size:=by have:=X5.out.sz;omega
           go_wp2
           generalize hw9:World.setCell _ _ _=w9
           obtain⟨Y9,hR9,X9⟩:=(HZ1.out.ext X8'.out).putx (HX1.out.trans X8'.out) hw9
           have OC9:w9.ownsRow w.heap.size TI 1 (.slice p n cap) n (ivs xs):=aZ ((aO OHR.out HY8.out).kept hR9 (.inr (fL (aO OHR.out HY8.out) (HZ1.out.ext X8'.out) (by decide)))) (by omega)
           have OS9:w9.ownsRow w.heap.size pG 4 (.slice q k d) k (vs.flatMap aE):=aZ ((aO OR.out HY8.out).kept hR9 (.inr (fL (aO OR.out HY8.out) (HZ1.out.ext X8'.out) (by decide)))) (by have:=X5.out.sz;omega)
           clear hw9 hR9 z0 z1 z2 z3 z4 z5 z6 z7 z8 z9 zf0 zf1 zf2 zf3 zf4 zf5 zf6 zf7 zf8 zf9 b0 b1 b2 b3 b4 b5 b6 b7 b8 b9
           obtain⟨y0,y1,y2,y3,y4,y5,y6,y7,y8,y9⟩:=(Y9).ten
           exact bodyPost_ret (v:= .tuple #[.agg #[.int .i64 W,.int .i64 D,.slice p n cap,.int .i64 f,.int .i64 s,.int .i64 pr,.int .i64 cp,.int .i64 ck,.int .i64 bk,.slice q k d],.bool true]) (by simp[results,Tryz.results39,go_sem, *]) rfl (vA hyes.out LN0.out HVL.out OC9 OS9 X9)
          ·have hd2:(t==l)=false:=by simp[ht]
           have hno:Hid (aW l=none):=by show _=_;rw[HRV.out];simp[ht]
           clear ht
           obtain⟨z0,zf0,z1,zf1,z2,zf2,z3,zf3,z4,zf4,z5,zf5,z6,zf6,z7,zf7,z8,zf8,z9,zf9⟩:=((HZ1.out.ext X8'.out)).tenf
           have hzz:w.heap.size<w8.heap.size:=(HZ1.out.ext X8'.out).lt
           go_wp2
           generalize hw9:World.setCell _ _ _=w9
           obtain⟨Y9,hR9,X9⟩:=(HZ1.out.ext X8'.out).putx (HX1.out.trans X8'.out) hw9
           clear hw9 hR9 z0 z1 z2 z3 z4 z5 z6 z7 z8 z9 zf0 zf1 zf2 zf3 zf4 zf5 zf6 zf7 zf8 zf9
           obtain⟨y0,y1,y2,y3,y4,y5,y6,y7,y8,y9⟩:=(Y9).ten
           exact bodyPost_ret (v:= .tuple #[.agg #[.int .i64 0,.int .i64 0,.slice none 0 0,.int .i64 0,.int .i64 0,.int .i64 0,.int .i64 0,.int .i64 0,.int .i64 0,.slice none 0 0],.bool false]) (by simp[results,Tryz.results39,go_sem, *]) rfl (eJ hno.out X9)
end Go.Proofs.YteejdnmmpmcmeaaGreatDoor
