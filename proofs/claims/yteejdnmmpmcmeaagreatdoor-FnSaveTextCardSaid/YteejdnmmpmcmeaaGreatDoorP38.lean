/-
  Texts of this proof, packed (@packed).
-/
import Derived.Deep.RegionHeld3
import Derived.Test.YteejdnmmpmcmeaaGreatDoorP2
import Derived.Test.YteejdnmmpmcmeaaGreatDoorP4
import Derived.Test.YteejdnmmpmcmeaaGreatDoorP35
import Derived.Test.YteejdnmmpmcmeaaGreatDoorP37
namespace Go.Proofs.YteejdnmmpmcmeaaGreatDoor
open Go.RowKit
set_option linter.unusedVariables false
set_option linter.unusedSimpArgs false
set_option maxRecDepth 100000 in
set_option maxHeartbeats 4000000 in
theorem pI (l:List UInt8)(w:World)(hs:l.length≤1048576):Calls Tryz.prog 38 #[str l] w (tL ((aW l).getD bT) (aW l).isSome w):=by
 have HS:Hid (∀w,Calls Tryz.prog 81 #[str l,.int .u8 59] w fun e w'=> ∃v,e= .returned v∧w'.ownsRow w.heap.size nD 1 v (aL 59 l).length (iQ (aL 59 l))∧Ext w w'):=
  fun w=>oT ⟨l.toArray⟩ 59 59 rfl w (by simp only[ByteArray.size,List.size_toArray];omega)
 have hlen:=dZ 59 l
 have HL:Hid (∀p∈aL 59 l,p.length≤1048576):=fun p hp=>Nat.le_trans (hlen.1 p hp) hs
 have hlen2:=hlen.2
 have hpos:0<(aL 59 l).length:=List.length_pos_iff.2 (eH 59 l)
 have HF4:Hid (∀(q:List UInt8),q.length≤1048576→ ∀w,Calls Tryz.prog 83 #[str q] w (rG q w)):=fun q hq w=>aHm q w (by omega)
 have HWH:Hid (∀(q:List UInt8) (x:Int),q.length≤1048576→eF q=x→ ∀w,Calls Tryz.prog 84 #[str q] w fun e w'=>e= .returned (.int .i64 x)∧Ext w w'):=fun q x hq hx w=>by subst hx;exact sY q w (by unfold maxLen;omega)
 clear hlen
 go_enter Tryz.func38,Tryz.ntmps38
 go_wp2_with fail
 refine(HS.out _).mono ?_
 rintro e w1 ⟨v,rfl,hown,h1⟩
 have hown1:=xQ (show w1.ownsRow (w.heap.size+1) nD 1 v (aL 59 l).length (iQ (aL 59 l)) by simpa using hown)
 have hX1:Ext w w1:=xE
 have HZ1:Hid (Blk w1 w.heap.size iH #[.int .i64 0,.int .i64 0,.slice none 0 0,.int .i64 0,.int .i64 0,.int .i64 0,.int .i64 0,.int .i64 0,.int .i64 0,.slice none 0 0]):=(Blk.new w _ _).ext h1
 have hz1:w.heap.size<w1.heap.size:=HZ1.out.lt
 have HX1:=xQ hX1
 clear hown h1 hX1
 obtain⟨gr,cr,rfl⟩:=Joins.ownsRow_form hown1.out hpos
 generalize hRq:(aL 59 l).length=R at*
 have HRq:=xQ hRq
 clear hRq
 have X1:=xQ (Ext.refl w1)
 by_cases hR3:R<4
 ·have hno:Hid (aW l=none):=oX (by unfold eE;rw[HRq.out];simp;omega)
  have hR3':(R:Int)<4:=by omega
  obtain⟨z0,zf0,z1,zf1,z2,zf2,z3,zf3,z4,zf4,z5,zf5,z6,zf6,z7,zf7,z8,zf8,z9,zf9⟩:=((HZ1.out.ext (Ext.refl w1))).tenf
  have hzz:w.heap.size<w1.heap.size:=(HZ1.out.ext (Ext.refl w1)).lt
  go_wp2
  generalize hw9:World.setCell _ _ _=w9
  obtain⟨Y9,hR9,X9⟩:=(HZ1.out.ext (Ext.refl w1)).putx (HX1.out.trans (Ext.refl w1)) hw9
  clear hw9 hR9 z0 z1 z2 z3 z4 z5 z6 z7 z8 z9 zf0 zf1 zf2 zf3 zf4 zf5 zf6 zf7 zf8 zf9
  obtain⟨y0,y1,y2,y3,y4,y5,y6,y7,y8,y9⟩:=(Y9).ten
  exact bodyPost_ret (v:= .tuple #[.agg #[.int .i64 0,.int .i64 0,.slice none 0 0,.int .i64 0,.int .i64 0,.int .i64 0,.int .i64 0,.int .i64 0,.int .i64 0,.slice none 0 0],.bool false]) (by simp[results,Tryz.results38,go_sem, *]) rfl (eJ hno.out X9)
 ·have hR3': ¬(R:Int)<4:=by omega
  obtain⟨p0,hp0⟩: ∃q,(aL 59 l)[0]? =some q:=⟨_,List.getElem?_eq_getElem (by rw[HRq.out];omega)⟩
  have HP0:=xQ hp0
  have PA0:Hid (eO (aL 59 l) 0=p0):=iU hp0
  have hl0:p0.length≤1048576:=HL.out p0 (List.mem_of_getElem? hp0)
  clear hp0
  obtain⟨p1,hp1⟩: ∃q,(aL 59 l)[1]? =some q:=⟨_,List.getElem?_eq_getElem (by rw[HRq.out];omega)⟩
  have HP1:=xQ hp1
  have PA1:Hid (eO (aL 59 l) 1=p1):=iU hp1
  have hl1:p1.length≤1048576:=HL.out p1 (List.mem_of_getElem? hp1)
  clear hp1
  obtain⟨p2,hp2⟩: ∃q,(aL 59 l)[2]? =some q:=⟨_,List.getElem?_eq_getElem (by rw[HRq.out];omega)⟩
  have HP2:=xQ hp2
  have PA2:Hid (eO (aL 59 l) 2=p2):=iU hp2
  have hl2:p2.length≤1048576:=HL.out p2 (List.mem_of_getElem? hp2)
  clear hp2
  obtain⟨p3,hp3⟩: ∃q,(aL 59 l)[3]? =some q:=⟨_,List.getElem?_eq_getElem (by rw[HRq.out];omega)⟩
  have HP3:=xQ hp3
  have PA3:Hid (eO (aL 59 l) 3=p3):=iU hp3
  have hl3:p3.length≤1048576:=HL.out p3 (List.mem_of_getElem? hp3)
  clear hp3
  obtain⟨W,D,xs,b0,H0,H0s⟩: ∃(W D:Int) (xs:List Int) (b:Bool),Hid ((cF p0).getD (0,0,[])=(W,D,xs))∧Hid ((cF p0).isSome=b):=⟨_,_,_,_,rfl,rfl⟩
  have HRH:Hid (∀w,Calls Tryz.prog 82 #[str p0] w fun e w'=> ∃p n cap,n=xs.length∧e= .returned (.tuple #[aJ W D p n cap,.bool b0])∧w'.ownsRow w.heap.size TI 1 (.slice p n cap) n (ivs xs)∧Ext w w'):=by
   intro w
   have h:=zT p0 w hl0
   unfold mN at h
   rw[H0.out,H0s.out]at h
   exact h
  have hgr1:gr<w1.heap.size:=(hown1.out.lt gr rfl).2
  have e0:w1.cell? ⟨gr,0,none⟩=some (str p0):=cY hown1.out 0 (by omega) _ HP0.out
  go_wp2_with fail
  refine(HRH.out _).mono ?_
  rintro e w2 ⟨p,n,cap,hnx,rfl,oh,hx2⟩
  have LN0:=xQ hnx
  clear hnx
  have X2:=xQ (show Ext w1 w2 from xE)
  have OH2:=xQ (aZ oh (show w1.heap.size≤_ by simp))
  have z2:w1.heap.size≤w2.heap.size:=X2.out.sz
  clear oh hx2 e0
  have hgr2:gr<w2.heap.size:=Nat.lt_of_lt_of_le hgr1 X2.out.sz
  have e1:w2.cell? ⟨gr,1,none⟩=some (str p1):=cY (aO hown1.out X2.out) 1 (by omega) _ HP1.out
  obtain⟨m4,hm4⟩: ∃m,(aL 44 p1).length=m:=⟨_,rfl⟩
  have HM4:=xQ hm4
  have HF1:Hid (∀w,Calls Tryz.prog 83 #[str p1] w fun e w'=> ∃p n cap,n=m4∧e= .returned (.tuple #[.slice p n cap,.bool ((n:Int)==4)])∧w'.ownsRow w.heap.size TI 1 (.slice p n cap) n (ivs (jB p1))∧Ext w w'):=by
   intro w
   have h:=HF4.out p1 hl1 w
   unfold rG at h
   rw[hm4]at h
   exact h
  clear hm4
  go_wp2_with fail
  refine(HF1.out (w2.alloc (.cells #[.int .i64 W,.int .i64 D,.slice p n cap] jZ))).mono ?_
  rintro e w3 ⟨t1,n1,c1,hn1,rfl,ot1,hx1⟩
  subst hn1
  have HB3:=xQ ((Blk.new w2 jZ #[.int .i64 W,.int .i64 D,.slice p n cap]).ext hx1)
  have hy3:Ext w2 w3:=xE
  have X3:=xQ (X2.out.trans hy3)
  have OT13:=xQ (aZ ot1 (show w1.heap.size≤_ by simp;omega))
  have OH3:=xQ (aO OH2.out hy3)
  have z3:w2.heap.size<w3.heap.size:=HB3.out.lt
  clear hx1 hy3 ot1 e1
  cases b0 with
  |false=>
   have hno:Hid (aW l=none):=oX (yX (.inl (by rw[PA0.out,H0s.out])))
   obtain⟨z0,zf0,z1,zf1,z2,zf2,z3,zf3,z4,zf4,z5,zf5,z6,zf6,z7,zf7,z8,zf8,z9,zf9⟩:=((HZ1.out.ext X3.out)).tenf
   have hzz:w.heap.size<w3.heap.size:=(HZ1.out.ext X3.out).lt
   go_wp2
   generalize hw9:World.setCell _ _ _=w9
   obtain⟨Y9,hR9,X9⟩:=(HZ1.out.ext X3.out).putx (HX1.out.trans X3.out) hw9
   clear hw9 hR9 z0 z1 z2 z3 z4 z5 z6 z7 z8 z9 zf0 zf1 zf2 zf3 zf4 zf5 zf6 zf7 zf8 zf9
   obtain⟨y0,y1,y2,y3,y4,y5,y6,y7,y8,y9⟩:=(Y9).ten
   exact bodyPost_ret (v:= .tuple #[.agg #[.int .i64 0,.int .i64 0,.slice none 0 0,.int .i64 0,.int .i64 0,.int .i64 0,.int .i64 0,.int .i64 0,.int .i64 0,.slice none 0 0],.bool false]) (by simp[results,Tryz.results38,go_sem, *]) rfl (eJ hno.out X9)
  |true=>
   by_cases hm4:n1=4
   ·subst hm4
    obtain⟨f,s,pr,cp,q1⟩:=oS (show(jB p1).length=4 by simp[jB,HM4.out])
    have HQ1:=xQ q1
    obtain⟨ck,hck⟩: ∃x,eF p2=x:=⟨_,rfl⟩
    obtain⟨bk,hbk⟩: ∃x,eF p3=x:=⟨_,rfl⟩
    have HCK:=xQ hck
    have HBK:=xQ hbk
    have HW2:=xQ (HWH.out p2 ck hl2 hck)
    have HW3:=xQ (HWH.out p3 bk hl3 hbk)
    rw[q1]at OT13
    clear q1 hck hbk HRH HF1
    obtain⟨g1,c1',hg1⟩:=Joins.ownsRow_form OT13.out (by omega)
    injection hg1 with hg1 _ hg1'
    subst hg1;subst hg1'
    have hgr3:gr<w3.heap.size:=Nat.lt_of_lt_of_le hgr2 (by omega)
    have hg1:=(OT13.out.lt g1 rfl).2
    have i2:(2:Int)<(R:Int):=by omega
    have i3:(3:Int)<(R:Int):=by omega
    go_wp2
    refine cM (gl [gEq (.agg #[.int .i64 W,.int .i64 D,.slice p n cap]),gEq (.slice (some ⟨g1,0,none⟩) 4 c1),gEq (.pointer (some ⟨g1,0,none⟩)),gEq (.int .i64 f),gEq (.slice (some ⟨g1,0,none⟩) 4 c1),gEq (.pointer (some ⟨g1,1,none⟩)),gEq (.int .i64 s),gEq (.slice (some ⟨g1,0,none⟩) 4 c1),gEq (.pointer (some ⟨g1,2,none⟩)),gEq (.int .i64 pr),gEq (.slice (some ⟨g1,0,none⟩) 4 c1),gEq (.pointer (some ⟨g1,3,none⟩)),gEq (.int .i64 cp),gEq (.agg #[.int .i64 f,.int .i64 s,.int .i64 pr,.int .i64 cp]),gEq (.slice (some ⟨gr,0,none⟩) R cr),gEq (.pointer (some ⟨gr,2,none⟩)),gEq (str p2),gEq (.int .i64 ck),gEq (.slice (some ⟨gr,0,none⟩) R cr),gEq (.pointer (some ⟨gr,3,none⟩)),gEq (str p3),gEq (.int .i64 bk),gEq (.agg #[.int .i64 W,.int .i64 D,.slice p n cap,.int .i64 f,.int .i64 s,.int .i64 pr,.int .i64 cp,.int .i64 ck,.int .i64 bk,.slice none 0 0]),aIp (w3.heap.size) iH #[.int .i64 0,.int .i64 0,.slice none 0 0,.int .i64 0,.int .i64 0,.int .i64 0,.int .i64 0,.int .i64 0,.int .i64 0,.slice none 0 0]]) 24 (by kernel_rfl) rfl (by kernel_rfl) (by kernel_rfl) (by kernel_rfl) (eG (aG (aF _) (aG (aF _) (aG (aF _) (aG (aF _) (aG (aF _) (aG (aF _) (aG (aF _) (aG (aF _) (aG (aF _) (aG (aF _) (aG (aF _) (aG (aF _) (aG (aF _) (aG (aF _) (aG (aF _) (aG (aF _) (aG (aF _) (aG (aF _) (aG (aF _) (aG (aF _) (aG (aF _) (aG (aF _) (aG (aF _) (aG (yV _ _ _) (fN)))))))))))))))))))))))))) (k:=25) (by kernel_rfl) (by decide) (ls:= [(0,some 40),(1,some 41),(2,some 42),(3,some 43),(4,some 44),(5,some 45),(6,some 46),(7,some 47),(8,some 48),(9,some 49),(10,some 50),(11,some 51),(12,some 52),(13,some 53),(14,some 54),(15,some 55),(16,some 56),(17,some 57),(18,some 58),(19,some 59),(20,some 60),(21,some 61),(22,some 62),(23,some 9)]) (by kernel_rfl) (ir:= [0,1,2,3,4,5,6,7,8,9,10,11,12,13,14,15,16,17,18,19,20,21,22,23]) (by kernel_rfl) ?steps (tl:=#[true,true,true,true,true,true,true,true,true,true,true,true,true,true,true,true,true,true,true,true,true,true,true,true,false]) (by kernel_rfl) ?fin
    case steps=>
     refine sC [] rfl (fun wi hx=> ?_) ?_
     ·intro K hK
      have hX:Ext w3 wi:=xE
      obtain⟨v0,v1,v2⟩:=((HB3.out.ext hX)).tri
      go_simp
      exact hK _ _ ⟨.agg #[.int .i64 W,.int .i64 D,.slice p n cap],rfl,rfl,Ext.refl _⟩
     refine sC [] rfl (fun wi hx=> ?_) ?_
     ·intro K hK
      go_simp
      exact hK _ _ ⟨.slice (some ⟨g1,0,none⟩) 4 c1,rfl,rfl,Ext.refl _⟩
     refine sC [(1,some 41)] rfl (fun wi hx=> ?_) ?_
     ·intro v1 h1 K hK
      obtain rfl:=h1
      go_simp
      exact hK _ _ ⟨.pointer (some ⟨g1,0,none⟩),rfl,rfl,Ext.refl _⟩
     refine sC [(2,some 42)] rfl (fun wi hx=> ?_) ?_
     ·intro v2 h2 K hK
      obtain rfl:=h2
      have hX:Ext w3 wi:=xE
      have t0:wi.cell? ⟨g1,0,none⟩=some (.int .i64 f):=bY (aO OT13.out hX) 0 (by omega) _ rfl
      go_simp
      exact hK _ _ ⟨.int .i64 f,rfl,rfl,Ext.refl _⟩
     refine sC [] rfl (fun wi hx=> ?_) ?_
     ·intro K hK
      go_simp
      exact hK _ _ ⟨.slice (some ⟨g1,0,none⟩) 4 c1,rfl,rfl,Ext.refl _⟩
     refine sC [(4,some 44)] rfl (fun wi hx=> ?_) ?_
     ·intro v4 h4 K hK
      obtain rfl:=h4
      go_simp
      exact hK _ _ ⟨.pointer (some ⟨g1,1,none⟩),rfl,rfl,Ext.refl _⟩
     refine sC [(5,some 45)] rfl (fun wi hx=> ?_) ?_
     ·intro v5 h5 K hK
      obtain rfl:=h5
      have hX:Ext w3 wi:=xE
      have t0:wi.cell? ⟨g1,1,none⟩=some (.int .i64 s):=bY (aO OT13.out hX) 1 (by omega) _ rfl
      go_simp
      exact hK _ _ ⟨.int .i64 s,rfl,rfl,Ext.refl _⟩
     refine sC [] rfl (fun wi hx=> ?_) ?_
     ·intro K hK
      go_simp
      exact hK _ _ ⟨.slice (some ⟨g1,0,none⟩) 4 c1,rfl,rfl,Ext.refl _⟩
     refine sC [(7,some 47)] rfl (fun wi hx=> ?_) ?_
     ·intro v7 h7 K hK
      obtain rfl:=h7
      go_simp
      exact hK _ _ ⟨.pointer (some ⟨g1,2,none⟩),rfl,rfl,Ext.refl _⟩
     refine sC [(8,some 48)] rfl (fun wi hx=> ?_) ?_
     ·intro v8 h8 K hK
      obtain rfl:=h8
      have hX:Ext w3 wi:=xE
      have t0:wi.cell? ⟨g1,2,none⟩=some (.int .i64 pr):=bY (aO OT13.out hX) 2 (by omega) _ rfl
      go_simp
      exact hK _ _ ⟨.int .i64 pr,rfl,rfl,Ext.refl _⟩
     refine sC [] rfl (fun wi hx=> ?_) ?_
     ·intro K hK
      go_simp
      exact hK _ _ ⟨.slice (some ⟨g1,0,none⟩) 4 c1,rfl,rfl,Ext.refl _⟩
     refine sC [(10,some 50)] rfl (fun wi hx=> ?_) ?_
     ·intro v10 h10 K hK
      obtain rfl:=h10
      go_simp
      exact hK _ _ ⟨.pointer (some ⟨g1,3,none⟩),rfl,rfl,Ext.refl _⟩
     refine sC [(11,some 51)] rfl (fun wi hx=> ?_) ?_
     ·intro v11 h11 K hK
      obtain rfl:=h11
      have hX:Ext w3 wi:=xE
      have t0:wi.cell? ⟨g1,3,none⟩=some (.int .i64 cp):=bY (aO OT13.out hX) 3 (by omega) _ rfl
      go_simp
      exact hK _ _ ⟨.int .i64 cp,rfl,rfl,Ext.refl _⟩
     refine sC [(3,some 43),(6,some 46),(9,some 49),(12,some 52)] rfl (fun wi hx=> ?_) ?_
     ·intro v3 h3 v6 h6 v9 h9 v12 h12 K hK
      obtain rfl:=h3
      obtain rfl:=h6
      obtain rfl:=h9
      obtain rfl:=h12
      go_simp
      exact hK _ _ ⟨.agg #[.int .i64 f,.int .i64 s,.int .i64 pr,.int .i64 cp],rfl,rfl,Ext.refl _⟩
     refine sC [] rfl (fun wi hx=> ?_) ?_
     ·intro K hK
      go_simp
      exact hK _ _ ⟨.slice (some ⟨gr,0,none⟩) R cr,rfl,rfl,Ext.refl _⟩
     refine sC [(14,some 54)] rfl (fun wi hx=> ?_) ?_
     ·intro v14 h14 K hK
      obtain rfl:=h14
      go_simp
      exact hK _ _ ⟨.pointer (some ⟨gr,2,none⟩),rfl,rfl,Ext.refl _⟩
     refine sC [(15,some 55)] rfl (fun wi hx=> ?_) ?_
     ·intro v15 h15 K hK
      obtain rfl:=h15
      have hX:Ext w3 wi:=xE
      have t0:wi.cell? ⟨gr,2,none⟩=some (str p2):=cY (aO hown1.out (X3.out.trans hX)) 2 (by omega) _ HP2.out
      go_simp
      exact hK _ _ ⟨str p2,rfl,rfl,Ext.refl _⟩
     refine sC [(16,some 56)] rfl (fun wi hx=> ?_) ?_
     ·intro v16 h16 K hK
      obtain rfl:=h16
      go_wp2_with fail
      refine(HW2.out _).mono ?_
      rintro e w6 ⟨rfl,hx6⟩
      go_simp
      exact hK _ _ ⟨.int .i64 ck,rfl,rfl,hx6⟩
     refine sC [] rfl (fun wi hx=> ?_) ?_
     ·intro K hK
      go_simp
      exact hK _ _ ⟨.slice (some ⟨gr,0,none⟩) R cr,rfl,rfl,Ext.refl _⟩
     refine sC [(18,some 58)] rfl (fun wi hx=> ?_) ?_
     ·intro v18 h18 K hK
      obtain rfl:=h18
      go_simp
      exact hK _ _ ⟨.pointer (some ⟨gr,3,none⟩),rfl,rfl,Ext.refl _⟩
     refine sC [(19,some 59)] rfl (fun wi hx=> ?_) ?_
     ·intro v19 h19 K hK
      obtain rfl:=h19
      have hX:Ext w3 wi:=xE
      have t0:wi.cell? ⟨gr,3,none⟩=some (str p3):=cY (aO hown1.out (X3.out.trans hX)) 3 (by omega) _ HP3.out
      go_simp
      exact hK _ _ ⟨str p3,rfl,rfl,Ext.refl _⟩
     refine sC [(20,some 60)] rfl (fun wi hx=> ?_) ?_
     ·intro v20 h20 K hK
      obtain rfl:=h20
      go_wp2_with fail
      refine(HW3.out _).mono ?_
      rintro e w6 ⟨rfl,hx6⟩
      go_simp
      exact hK _ _ ⟨.int .i64 bk,rfl,rfl,hx6⟩
     refine sC [(0,some 40),(13,some 53),(17,some 57),(21,some 61)] rfl (fun wi hx=> ?_) ?_
     ·intro v0 h0 v13 h13 v17 h17 v21 h21 K hK
      obtain rfl:=h0
      obtain rfl:=h13
      obtain rfl:=h17
      obtain rfl:=h21
      go_simp
      exact hK _ _ ⟨.agg #[.int .i64 W,.int .i64 D,.slice p n cap,.int .i64 f,.int .i64 s,.int .i64 pr,.int .i64 cp,.int .i64 ck,.int .i64 bk,.slice none 0 0],rfl,rfl,Ext.refl _⟩
     refine sC [] rfl (fun wi hx=> ?_) StepsL.nil
     ·intro K hK
      go_simp
      exact hK _ _ ⟨.pointer (some ⟨wi.heap.size,0,none⟩),rfl,⟨wi.heap.size,rfl,by have:=hx.sz;simp at this;omega,Blk.new _ _ _⟩,(Ext.refl _).alloc _⟩
    case fin=>
     intro wi hx v0 h0 v1 h1 v2 h2 v3 h3 v4 h4 v5 h5 v6 h6 v7 h7 v8 h8 v9 h9 v10 h10 v11 h11 v12 h12 v13 h13 v14 h14 v15 h15 v16 h16 v17 h17 v18 h18 v19 h19 v20 h20 v21 h21 v22 h22 v23 h23
     obtain rfl:=h0
     obtain rfl:=h1
     obtain rfl:=h2
     obtain rfl:=h3
     obtain rfl:=h4
     obtain rfl:=h5
     obtain rfl:=h6
     obtain rfl:=h7
     obtain rfl:=h8
     obtain rfl:=h9
     obtain rfl:=h10
     obtain rfl:=h11
     obtain rfl:=h12
     obtain rfl:=h13
     obtain rfl:=h14
     obtain rfl:=h15
     obtain rfl:=h16
     obtain rfl:=h17
     obtain rfl:=h18
     obtain rfl:=h19
     obtain rfl:=h20
     obtain rfl:=h21
     obtain rfl:=h22
     obtain⟨g23,rfl,hg23,B23⟩:=h23
     have hX:Ext w3 wi:=xE
     have hz6:g23<wi.heap.size:=B23.lt
     obtain⟨z0,zf0,z1,zf1,z2,zf2,z3,zf3,z4,zf4,z5,zf5,z6,zf6,z7,zf7,z8,zf8,z9,zf9⟩:=(B23).tenf
     have BN:=((((((((((B23).set 0 (.int .i64 W)).set 1 (.int .i64 D)).set 2 (.slice p n cap)).set 3 (.int .i64 f)).set 4 (.int .i64 s)).set 5 (.int .i64 pr)).set 6 (.int .i64 cp)).set 7 (.int .i64 ck)).set 8 (.int .i64 bk)).set 9 (.slice none 0 0)
     simp only[List.setIfInBounds_toArray,List.set_cons_zero,List.set_cons_succ]at BN
     refine wpAny_ready (rs:= [24]) (by kernel_rfl) (by simp) ?_
     refine AllReady.cons rfl (fun K hK=> ?_) AllReady.nil
     go_simp
     refine hK _ _ ?_
     clear hK K
     clear z0 z1 z2 z3 z4 z5 z6 z7 z8 z9 zf0 zf1 zf2 zf3 zf4 zf5 zf6 zf7 zf8 zf9
     generalize hw6:World.setCell _ _ _=w6
     rw[hw6]at BN
     have hR6:ExtR g23 wi w6:=by rw[←hw6];exact((((((((((ExtR.refl g23 wi).setCell (p:=⟨g23,0,none⟩) (.inl rfl) (.int .i64 W)).setCell (p:=⟨g23,1,none⟩) (.inl rfl) (.int .i64 D)).setCell (p:=⟨g23,2,none⟩) (.inl rfl) (.slice p n cap)).setCell (p:=⟨g23,3,none⟩) (.inl rfl) (.int .i64 f)).setCell (p:=⟨g23,4,none⟩) (.inl rfl) (.int .i64 s)).setCell (p:=⟨g23,5,none⟩) (.inl rfl) (.int .i64 pr)).setCell (p:=⟨g23,6,none⟩) (.inl rfl) (.int .i64 cp)).setCell (p:=⟨g23,7,none⟩) (.inl rfl) (.int .i64 ck)).setCell (p:=⟨g23,8,none⟩) (.inl rfl) (.int .i64 bk)).setCell (p:=⟨g23,9,none⟩) (.inl rfl) (.slice none 0 0)
     clear hw6
     have HXB:=xQ (ExtR.new hX hR6 hg23)
     have B6:=xQ BN
     have z6:g23<w6.heap.size:=BN.lt
     clear BN hX hx B23 hR6 hz6
     refine wpAny_done (by kernel_rfl) ?_ _
     try simp only[Act.put,List.setIfInBounds_toArray,List.set_cons_zero,List.set_cons_succ]
     obtain⟨N,rfl⟩: ∃N,R=N+4:=⟨R-4,by omega⟩
     have HRN:Hid ((aL 59 l).length=N+4):=HRq.out
     go_wp2
     go_loopw [10] (fun i wr=> ∃(k:Nat) (q:Option Addr) (d:Nat),k≤N∧i= .int .i64 ((4+k:Nat):Int)∧Ext w3 wr∧Blk wr g23 iH #[.int .i64 W,.int .i64 D,.slice p n cap,.int .i64 f,.int .i64 s,.int .i64 pr,.int .i64 cp,.int .i64 ck,.int .i64 bk,.slice q k d]∧wr.ownsRow (g23+1) pG 4 (.slice q k d) k ((cZ (aL 59 l) k).flatMap aE)∧ ∀q∈((aL 59 l).drop 4).take k,(aL 44 q).length=4) (fun i _=>N+4-(intOf i).toNat)
     case atStart=>exact⟨0,none,0,Nat.zero_le _,rfl,HXB.out,B6.out,World.ownsRow_nil _ _ _ _,by simp⟩
     case round=>
      obtain⟨k,q,d,hk,rfl,hEr,hB,hO,hfn⟩:=hrel
      have XR:=xQ hEr
      have BR:=xQ hB
      have OR:=xQ hO
      have HF:=xQ hfn
      have hzr:g23<wr.heap.size:=hB.lt
      clear hEr hB hO hfn
      by_cases hlt:k<N
      ·obtain⟨x,hx⟩: ∃q,(aL 59 l)[4+k]? =some q:=⟨_,List.getElem?_eq_getElem (by rw[HRN.out];omega)⟩
       have HXq:=xQ hx
       have hxl:x.length≤1048576:=HL.out x (List.mem_of_getElem? hx)
       have XWR:=xQ (X3.out.trans XR.out)
       have e1:wr.cell? ⟨gr,4+k,none⟩=some (str x):=cY (aO hown1.out XWR.out) (4+k) (by omega) _ hx
       have hgrr:gr<wr.heap.size:=Nat.lt_of_lt_of_le hgr1 XWR.out.sz
       clear hx
       have i1:(0:Int)≤((4+k:Nat):Int):=by omega
       have i2:((4+k:Nat):Int)<((N+4:Nat):Int):=by omega
       obtain⟨mv,hmv⟩: ∃m,(aL 44 x).length=m:=⟨_,rfl⟩
       have HMV:=xQ hmv
       have HNV:Hid (∀w,Calls Tryz.prog 83 #[str x] w fun e w'=> ∃p n cap,n=mv∧e= .returned (.tuple #[.slice p n cap,.bool ((n:Int)==4)])∧w'.ownsRow w.heap.size TI 1 (.slice p n cap) n (ivs (jB x))∧Ext w w'):=by
        intro w
        have h:=HF4.out x hxl w
        unfold rG at h
        rw[hmv]at h
        exact h
       clear hmv
       go_wp2_with fail
       refine(HNV.out wr).mono ?_
       rintro e w7 ⟨tv,nv,cv,hnv,rfl,otv,hx7⟩
       subst hnv
       have X7:=xQ (XR.out.trans hx7)
       have B7:=xQ (BR.out.ext hx7)
       have O7:=xQ (aO OR.out hx7)
       have OV7:=xQ (aZ otv (show g23+1≤_ by omega))
       have hz7:g23<w7.heap.size:=B7.out.lt
       clear hx7 otv e1
       by_cases hm4:nv=4
       ·subst hm4
        obtain⟨a0,a1,a2,a3,q1⟩:=oS (show(jB x).length=4 by simp[jB,HMV.out])
        have HQX:=xQ q1
        rw[q1]at OV7
        clear q1 HNV
        obtain⟨gv,cv',hgv⟩:=Joins.ownsRow_form OV7.out (by omega)
        injection hgv with hgv _ hgv'
        subst hgv;subst hgv'
        have t0:w7.cell? ⟨gv,0,none⟩=some (.int .i64 a0):=bY OV7.out 0 (by omega) _ rfl
        have t1:w7.cell? ⟨gv,1,none⟩=some (.int .i64 a1):=bY OV7.out 1 (by omega) _ rfl
        have t2:w7.cell? ⟨gv,2,none⟩=some (.int .i64 a2):=bY OV7.out 2 (by omega) _ rfl
        have t3:w7.cell? ⟨gv,3,none⟩=some (.int .i64 a3):=bY OV7.out 3 (by omega) _ rfl
        have v9:w7.cell? ⟨g23,9,none⟩=some (.slice q k d):=B7.out.cell 9
        have vf9:w7.frozen? ⟨g23,9,none⟩=false:=B7.out.frozen 9
        have hgv:=(OV7.out.lt gv rfl).2
        have hgn: ¬gv=g23:=by have:=(OV7.out.lt gv rfl).1;omega
        have hkb:k≤1048577:=by omega
        go_wp2
        refine cM (gl [gEq (.pointer (some ⟨g23,9,none⟩)),gEq (.slice q k d),gEq (.slice (some ⟨gv,0,none⟩) 4 cv),gEq (.pointer (some ⟨gv,0,none⟩)),gEq (.int .i64 a0),gEq (.slice (some ⟨gv,0,none⟩) 4 cv),gEq (.pointer (some ⟨gv,1,none⟩)),gEq (.int .i64 a1),gEq (.slice (some ⟨gv,0,none⟩) 4 cv),gEq (.pointer (some ⟨gv,2,none⟩)),gEq (.int .i64 a2),gEq (.slice (some ⟨gv,0,none⟩) 4 cv),gEq (.pointer (some ⟨gv,3,none⟩)),gEq (.int .i64 a3),gEq (.agg #[.int .i64 a1,.int .i64 a2,.int .i64 a3]),gEq (.agg #[.int .i64 a0,.int .i64 a1,.int .i64 a2,.int .i64 a3]),xP (0) pG #[.int .i64 a0,.int .i64 a1,.int .i64 a2,.int .i64 a3] 1]) 17 (by kernel_rfl) rfl (by kernel_rfl) (by kernel_rfl) (by kernel_rfl) (eG (aG (aF _) (aG (aF _) (aG (aF _) (aG (aF _) (aG (aF _) (aG (aF _) (aG (aF _) (aG (aF _) (aG (aF _) (aG (aF _) (aG (aF _) (aG (aF _) (aG (aF _) (aG (aF _) (aG (aF _) (aG (aF _) (aG (jH _ _ _ _) (fN))))))))))))))))))) (k:=20) (by kernel_rfl) (by decide) (ls:= [(0,some 80),(1,some 81),(2,some 82),(3,some 83),(4,some 84),(5,some 85),(6,some 86),(7,some 87),(8,some 88),(9,some 89),(10,some 90),(11,some 91),(12,some 92),(13,some 93),(14,some 94),(15,some 95),(16,some 96)]) (by kernel_rfl) (ir:= [0,1,2,3,4,5,6,7,8,9,10,11,12,13,14,15,16]) (by kernel_rfl) ?steps (tl:=#[true,true,true,true,true,true,true,true,true,true,true,true,true,true,true,true,true,false,false,false]) (by kernel_rfl) ?fin
        case steps=>
         refine sC [] rfl (fun wi hx=> ?_) ?_
         ·intro K hK
          go_simp
          exact hK _ _ ⟨.pointer (some ⟨g23,9,none⟩),rfl,rfl,Ext.refl _⟩
         refine sC [(0,some 80)] rfl (fun wi hx=> ?_) ?_
         ·intro v0 h0 K hK
          obtain rfl:=h0
          have hX:Ext w7 wi:=xE
          have v9:wi.cell? ⟨g23,9,none⟩=some (.slice q k d):=(B7.out.ext hX).cell 9
          go_simp
          exact hK _ _ ⟨.slice q k d,rfl,rfl,Ext.refl _⟩
         refine sC [] rfl (fun wi hx=> ?_) ?_
         ·intro K hK
          go_simp
          exact hK _ _ ⟨.slice (some ⟨gv,0,none⟩) 4 cv,rfl,rfl,Ext.refl _⟩
         refine sC [(2,some 82)] rfl (fun wi hx=> ?_) ?_
         ·intro v2 h2 K hK
          obtain rfl:=h2
          go_simp
          exact hK _ _ ⟨.pointer (some ⟨gv,0,none⟩),rfl,rfl,Ext.refl _⟩
         refine sC [(3,some 83)] rfl (fun wi hx=> ?_) ?_
         ·intro v3 h3 K hK
          obtain rfl:=h3
          have hX:Ext w7 wi:=xE
          have t0:wi.cell? ⟨gv,0,none⟩=some (.int .i64 a0):=bY (aO OV7.out hX) 0 (by omega) _ rfl
          go_simp
          exact hK _ _ ⟨.int .i64 a0,rfl,rfl,Ext.refl _⟩
         refine sC [] rfl (fun wi hx=> ?_) ?_
         ·intro K hK
          go_simp
          exact hK _ _ ⟨.slice (some ⟨gv,0,none⟩) 4 cv,rfl,rfl,Ext.refl _⟩
         refine sC [(5,some 85)] rfl (fun wi hx=> ?_) ?_
         ·intro v5 h5 K hK
          obtain rfl:=h5
          go_simp
          exact hK _ _ ⟨.pointer (some ⟨gv,1,none⟩),rfl,rfl,Ext.refl _⟩
         refine sC [(6,some 86)] rfl (fun wi hx=> ?_) ?_
         ·intro v6 h6 K hK
          obtain rfl:=h6
          have hX:Ext w7 wi:=xE
          have t0:wi.cell? ⟨gv,1,none⟩=some (.int .i64 a1):=bY (aO OV7.out hX) 1 (by omega) _ rfl
          go_simp
          exact hK _ _ ⟨.int .i64 a1,rfl,rfl,Ext.refl _⟩
         refine sC [] rfl (fun wi hx=> ?_) ?_
         ·intro K hK
          go_simp
          exact hK _ _ ⟨.slice (some ⟨gv,0,none⟩) 4 cv,rfl,rfl,Ext.refl _⟩
         refine sC [(8,some 88)] rfl (fun wi hx=> ?_) ?_
         ·intro v8 h8 K hK
          obtain rfl:=h8
          go_simp
          exact hK _ _ ⟨.pointer (some ⟨gv,2,none⟩),rfl,rfl,Ext.refl _⟩
         refine sC [(9,some 89)] rfl (fun wi hx=> ?_) ?_
         ·intro v9 h9 K hK
          obtain rfl:=h9
          have hX:Ext w7 wi:=xE
          have t0:wi.cell? ⟨gv,2,none⟩=some (.int .i64 a2):=bY (aO OV7.out hX) 2 (by omega) _ rfl
          go_simp
          exact hK _ _ ⟨.int .i64 a2,rfl,rfl,Ext.refl _⟩
         refine sC [] rfl (fun wi hx=> ?_) ?_
         ·intro K hK
          go_simp
          exact hK _ _ ⟨.slice (some ⟨gv,0,none⟩) 4 cv,rfl,rfl,Ext.refl _⟩
         refine sC [(11,some 91)] rfl (fun wi hx=> ?_) ?_
         ·intro v11 h11 K hK
          obtain rfl:=h11
          go_simp
          exact hK _ _ ⟨.pointer (some ⟨gv,3,none⟩),rfl,rfl,Ext.refl _⟩
         refine sC [(12,some 92)] rfl (fun wi hx=> ?_) ?_
         ·intro v12 h12 K hK
          obtain rfl:=h12
          have hX:Ext w7 wi:=xE
          have t0:wi.cell? ⟨gv,3,none⟩=some (.int .i64 a3):=bY (aO OV7.out hX) 3 (by omega) _ rfl
          go_simp
          exact hK _ _ ⟨.int .i64 a3,rfl,rfl,Ext.refl _⟩
         refine sC [(7,some 87),(10,some 90),(13,some 93)] rfl (fun wi hx=> ?_) ?_
         ·intro v7 h7 v10 h10 v13 h13 K hK
          obtain rfl:=h7
          obtain rfl:=h10
          obtain rfl:=h13
          go_simp
          exact hK _ _ ⟨.agg #[.int .i64 a1,.int .i64 a2,.int .i64 a3],rfl,rfl,Ext.refl _⟩
         refine sC [(4,some 84),(14,some 94)] rfl (fun wi hx=> ?_) ?_
         ·intro v4 h4 v14 h14 K hK
          obtain rfl:=h4
          obtain rfl:=h14
          go_simp
          exact hK _ _ ⟨.agg #[.int .i64 a0,.int .i64 a1,.int .i64 a2,.int .i64 a3],rfl,rfl,Ext.refl _⟩
         refine sC [(15,some 95)] rfl (fun wi hx=> ?_) StepsL.nil
         ·intro v15 h15 K hK
          obtain rfl:=h15
          go_simp
          exact hK _ _ ⟨.slice (some ⟨wi.heap.size,0,none⟩) 1 1,rfl,⟨wi.heap.size,rfl,Nat.zero_le _,Blk.new _ _ _⟩,(Ext.refl _).alloc _⟩
        case fin=>
         intro wi hx v0 h0 v1 h1 v2 h2 v3 h3 v4 h4 v5 h5 v6 h6 v7 h7 v8 h8 v9 h9 v10 h10 v11 h11 v12 h12 v13 h13 v14 h14 v15 h15 v16 h16
         obtain rfl:=h0
         obtain rfl:=h1
         obtain rfl:=h2
         obtain rfl:=h3
         obtain rfl:=h4
         obtain rfl:=h5
         obtain rfl:=h6
         obtain rfl:=h7
         obtain rfl:=h8
         obtain rfl:=h9
         obtain rfl:=h10
         obtain rfl:=h11
         obtain rfl:=h12
         obtain rfl:=h13
         obtain rfl:=h14
         obtain rfl:=h15
         obtain⟨g16,rfl,hg16,B16⟩:=h16
         have hX:Ext w7 wi:=xE
         have XF:Ext w3 wi:=X7.out.trans hX
         have BF:=B7.out.ext hX
         have OF:=aO O7.out hX
         have OVF:=aO OV7.out hX
         clear hX hx hg16
         simp only[Act.put,List.setIfInBounds_toArray,List.set_cons_zero,List.set_cons_succ]
         refine wpAny_ready (rs:= [17]) (by kernel_rfl) (by simp) ?_
         refine AllReady.cons rfl (fun K hK=> ?_) AllReady.nil
         refine eK _ aKh rfl (.tmp 81) (.tmp 96) rfl (g23+1) (.slice q k d) k _ rfl OF (some ⟨g16,0,none⟩) 1 1 (aE (a0,a1,a2,a3)) rfl (Sl.blkS B16) (aF1 _) (by omega) (by have:=BF.lt;omega) (fun p2 cap2 w8 hown8 hgrow8=>hK _ _ ?_)
         clear hK K
         obtain⟨X8,B8⟩:=wR XF BF (by decide) OF (by omega) hgrow8
         have OV8:=wQ OF hgrow8 OVF (by decide)
         clear hgrow8 XF BF OF OVF B16
         have x9:w8.cell? ⟨g23,9,none⟩=some (.slice q k d):=B8.cell 9
         have xf9:w8.frozen? ⟨g23,9,none⟩=false:=B8.frozen 9
         have hz8:g23<w8.heap.size:=B8.lt
         try simp only[Act.put,List.setIfInBounds_toArray,List.set_cons_zero,List.set_cons_succ]
         refine wpAny_ready (rs:= [18]) (by kernel_rfl) (by simp) ?_
         refine AllReady.cons rfl (fun K hK=> ?_) AllReady.nil
         go_simp
         refine hK _ _ ?_
         clear hK K
         refine wpAny_ready (rs:= [19]) (by kernel_rfl) (by simp) ?_
         refine AllReady.cons rfl (fun K hK=> ?_) AllReady.nil
         go_simp
         refine hK _ _ ?_
         clear hK K
         refine wpAny_done (by kernel_rfl) ?_ _
         have HFN:Hid (∀q∈((aL 59 l).drop 4).take (k+1),(aL 44 q).length=4):=by
          have e:((aL 59 l).drop 4)[k]? =some x:=by rw[List.getElem?_drop];exact HXq.out
          rw[xQ (bF e)]
          intro y hy
          rcases List.mem_append.1 hy with h|h
          ·exact HF.out y h
          ·obtain rfl:y=x:=by simpa using h
           exact HMV.out
         have HVS:Hid (cZ (aL 59 l) (k+1)=cZ (aL 59 l) k++ [(a0,a1,a2,a3)]):=by
          show _=_
          rw[pH HXq.out,HQX.out];rfl
         have B9:=xQ (show Blk (w8.setCell ⟨g23,9,none⟩ (.slice p2 (k+1) cap2)) g23 iH #[.int .i64 W,.int .i64 D,.slice p n cap,.int .i64 f,.int .i64 s,.int .i64 pr,.int .i64 cp,.int .i64 ck,.int .i64 bk,.slice p2 (k+1) cap2] by have:=B8.set 9 (.slice p2 (k+1) cap2);simpa using this)
         have O9:=xQ (show(w8.setCell ⟨g23,9,none⟩ (.slice p2 (k+1) cap2)).ownsRow (g23+1) pG 4 (.slice p2 (k+1) cap2) (k+1) ((cZ (aL 59 l) (k+1)).flatMap aE) by
          rw[HVS.out,List.flatMap_append]
          have:=fW (i:=9) (u:= .slice p2 (k+1) cap2) B8 hown8 (by decide)
          simpa using this)
         have X9:Ext w3 (w8.setCell ⟨g23,9,none⟩ (.slice p2 (k+1) cap2)):=X8.setCell (by omega) _
         clear hown8 OV8 B8 X8 t0 t1 t2 t3 v9 vf9 x9 xf9
         go_wp2
         go_roundw
         case rel=>
          first
           |exact⟨k+1,p2,cap2,by omega,by go_num,X9,B9.out,O9.out,HFN.out⟩
           |((repeat apply Exists.intro);refine⟨⟨k+1,p2,cap2,by omega,by go_num,X9,B9.out,O9.out,HFN.out⟩,rfl⟩)
         case measure=>simp[intOf];omega
       ·have hno:Hid (aW l=none):=oX (aEs HXq.out (by rw[HMV.out];exact hm4))
        have hq0:((nv:Int)==4)=false:=by rw[beq_eq_false_iff_ne];omega
        have X7':=xQ (X3.out.trans X7.out)
        clear hm4
        obtain⟨z0,zf0,z1,zf1,z2,zf2,z3,zf3,z4,zf4,z5,zf5,z6,zf6,z7,zf7,z8,zf8,z9,zf9⟩:=((HZ1.out.ext X7'.out)).tenf
        have hzz:w.heap.size<w7.heap.size:=(HZ1.out.ext X7'.out).lt
        go_wp2
        generalize hw9:World.setCell _ _ _=w9
        obtain⟨Y9,hR9,X9⟩:=(HZ1.out.ext X7'.out).putx (HX1.out.trans X7'.out) hw9
        clear hw9 hR9 z0 z1 z2 z3 z4 z5 z6 z7 z8 z9 zf0 zf1 zf2 zf3 zf4 zf5 zf6 zf7 zf8 zf9
        obtain⟨y0,y1,y2,y3,y4,y5,y6,y7,y8,y9⟩:=(Y9).ten
        exact bodyPost_ret (v:= .tuple #[.agg #[.int .i64 0,.int .i64 0,.slice none 0 0,.int .i64 0,.int .i64 0,.int .i64 0,.int .i64 0,.int .i64 0,.int .i64 0,.slice none 0 0],.bool false]) (by simp[results,Tryz.results38,go_sem, *]) rfl (eJ hno.out X9)
      ·obtain rfl:k=N:=by omega
       have HT:Hid (((aL 59 l).drop 4).take k=(aL 59 l).drop 4):=List.take_of_length_le (by rw[List.length_drop,HRN.out];omega)
       have hfine:eE (aL 59 l)=true:=by
        have h2:=HF.out
        rw[HT.out]at h2
        unfold eE
        rw[HRN.out,PA0.out,PA1.out,HM4.out,H0s.out]
        have h4:4≤k+4:=by omega
        have h5:((aL 59 l).drop 4).all (fun p=>decide ((aL 44 p).length=4))=true:=by
         rw[List.all_eq_true];intro z hz;exact decide_eq_true (h2 z hz)
        simp[h4,h5]
       have HHP:Hid (cI (aL 59 l)=⟨W,D,xs,f,s,pr,cp,ck,bk,cZ (aL 59 l) k⟩):=by
        show _=_
        rw[vL (W:=W) (D:=D) (xs:=xs) HRN.out (by rw[PA0.out];exact H0.out) (t:= [f,s,pr,cp]) (by rw[PA1.out];exact HQ1.out),PA2.out,PA3.out,HCK.out,HBK.out]
        rfl
       have HRV:=xQ (vE (by rw[HRN.out];omega) hfine)
       rw[HHP.out]at HRV
       have HVL:Hid (k=(cZ (aL 59 l) k).length):=(qC HRN.out (Nat.le_refl _)).symm
       clear hfine HF HT
       generalize hvs:cZ (aL 59 l) k=vs at*
       clear hvs
       have XRR:=xQ (X3.out.trans XR.out)
       have OHR:=xQ (aO OH3.out XR.out)
       have HI:Hid (IsHouse wr ⟨W,D,xs,f,s,pr,cp,ck,bk,vs⟩ p n cap q k d):=⟨Sl.own OHR.out,Sl.own OR.out⟩
       have HT:Hid (∀(w':World),Ext wr w'→Calls Tryz.prog 47 #[.agg #[.int .i64 W,.int .i64 D,.slice p n cap,.int .i64 f,.int .i64 s,.int .i64 pr,.int .i64 cp,.int .i64 ck,.int .i64 bk,.slice q k d]] w' fun e w''=>e= .returned (str (aU ⟨W,D,xs,f,s,pr,cp,ck,bk,vs⟩))∧Ext w' w''):=fun w' hx=>jL ⟨W,D,xs,f,s,pr,cp,ck,bk,vs⟩ p n cap q k d w' (HI.out.ext hx)
       generalize hht:aU ⟨W,D,xs,f,s,pr,cp,ck,bk,vs⟩=t at*
       clear hht
       obtain⟨b0,b1,b2,b3,b4,b5,b6,b7,b8,b9⟩:=(BR.out).ten
       go_wp2_with fail
       refine(HT.out _ xE).mono ?_
       rintro e w8 ⟨rfl,h8⟩
       clear b0 b1 b2 b3 b4 b5 b6 b7 b8 b9
       have hy8:Ext wr w8:=xE
       have B8:=xQ (BR.out.ext hy8)
       have hz8:g23<w8.heap.size:=B8.out.lt
       have HY8:=xQ hy8
       have X8':=xQ (XRR.out.trans HY8.out)
       clear h8 hy8
       by_cases ht:t=l
       ·have hd2:(t==l)=true:=by simp[ht]
        have hyes:Hid (aW l=some ⟨W,D,xs,f,s,pr,cp,ck,bk,vs⟩):=by show _=_;rw[HRV.out];simp[ht]
        clear ht
        obtain⟨b0,b1,b2,b3,b4,b5,b6,b7,b8,b9⟩:=(B8.out).ten
        obtain⟨z0,zf0,z1,zf1,z2,zf2,z3,zf3,z4,zf4,z5,zf5,z6,zf6,z7,zf7,z8,zf8,z9,zf9⟩:=((HZ1.out.ext X8'.out)).tenf
        have hzz:w.heap.size<w8.heap.size:=(HZ1.out.ext X8'.out).lt
        have hne: ¬w.heap.size=g23:=by have:=X3.out.sz;omega
        go_wp2
        generalize hw9:World.setCell _ _ _=w9
        obtain⟨Y9,hR9,X9⟩:=(HZ1.out.ext X8'.out).putx (HX1.out.trans X8'.out) hw9
        have OC9:w9.ownsRow w.heap.size TI 1 (.slice p n cap) n (ivs xs):=aZ ((aO OHR.out HY8.out).kept hR9 (.inr (fL (aO OHR.out HY8.out) (HZ1.out.ext X8'.out) (by decide)))) (by omega)
        have OS9:w9.ownsRow w.heap.size pG 4 (.slice q k d) k (vs.flatMap aE):=aZ ((aO OR.out HY8.out).kept hR9 (.inr (fL (aO OR.out HY8.out) (HZ1.out.ext X8'.out) (by decide)))) (by have:=X3.out.sz;omega)
        clear hw9 hR9 z0 z1 z2 z3 z4 z5 z6 z7 z8 z9 zf0 zf1 zf2 zf3 zf4 zf5 zf6 zf7 zf8 zf9 b0 b1 b2 b3 b4 b5 b6 b7 b8 b9
        obtain⟨y0,y1,y2,y3,y4,y5,y6,y7,y8,y9⟩:=(Y9).ten
        exact bodyPost_ret (v:= .tuple #[.agg #[.int .i64 W,.int .i64 D,.slice p n cap,.int .i64 f,.int .i64 s,.int .i64 pr,.int .i64 cp,.int .i64 ck,.int .i64 bk,.slice q k d],.bool true]) (by simp[results,Tryz.results38,go_sem, *]) rfl (vA hyes.out LN0.out HVL.out OC9 OS9 X9)
       ·have hd2:(t==l)=false:=by simp[ht]
        have hno:Hid (aW l=none):=by show _=_;rw[HRV.out];simp[ht]
        clear ht
        obtain⟨z0,zf0,z1,zf1,z2,zf2,z3,zf3,z4,zf4,z5,zf5,z6,zf6,z7,zf7,z8,zf8,z9,zf9⟩:=((HZ1.out.ext X8'.out)).tenf
        have hzz:w.heap.size<w8.heap.size:=(HZ1.out.ext X8'.out).lt
        go_wp2
        generalize hw9:World.setCell _ _ _=w9
        obtain⟨Y9,hR9,X9⟩:=(HZ1.out.ext X8'.out).putx (HX1.out.trans X8'.out) hw9
        clear hw9 hR9 z0 z1 z2 z3 z4 z5 z6 z7 z8 z9 zf0 zf1 zf2 zf3 zf4 zf5 zf6 zf7 zf8 zf9
        obtain⟨y0,y1,y2,y3,y4,y5,y6,y7,y8,y9⟩:=(Y9).ten
        exact bodyPost_ret (v:= .tuple #[.agg #[.int .i64 0,.int .i64 0,.slice none 0 0,.int .i64 0,.int .i64 0,.int .i64 0,.int .i64 0,.int .i64 0,.int .i64 0,.slice none 0 0],.bool false]) (by simp[results,Tryz.results38,go_sem, *]) rfl (eJ hno.out X9)
   ·have hno:Hid (aW l=none):=oX (yX (.inr (by rw[PA1.out,HM4.out];exact hm4)))
    have hq0:((n1:Int)==4)=false:=by rw[beq_eq_false_iff_ne];omega
    clear hm4
    obtain⟨z0,zf0,z1,zf1,z2,zf2,z3,zf3,z4,zf4,z5,zf5,z6,zf6,z7,zf7,z8,zf8,z9,zf9⟩:=((HZ1.out.ext X3.out)).tenf
    have hzz:w.heap.size<w3.heap.size:=(HZ1.out.ext X3.out).lt
    go_wp2
    generalize hw9:World.setCell _ _ _=w9
    obtain⟨Y9,hR9,X9⟩:=(HZ1.out.ext X3.out).putx (HX1.out.trans X3.out) hw9
    clear hw9 hR9 z0 z1 z2 z3 z4 z5 z6 z7 z8 z9 zf0 zf1 zf2 zf3 zf4 zf5 zf6 zf7 zf8 zf9
    obtain⟨y0,y1,y2,y3,y4,y5,y6,y7,y8,y9⟩:=(Y9).ten
    exact bodyPost_ret (v:= .tuple #[.agg #[.int .i64 0,.int .i64 0,.slice none 0 0,.int .i64 0,.int .i64 0,.int .i64 0,.int .i64 0,.int .i64 0,.int .i64 0,.slice none 0 0],.bool false]) (by simp[results,Tryz.results38,go_sem, *]) rfl (eJ hno.out X9)
theorem aEv (a b:List UInt8):(⟨a.toArray⟩:ByteArray)++⟨b.toArray⟩=⟨(a++b).toArray⟩:=Go.WideShapes.bytes_inj (by simp[ByteArray.data_append])
theorem zF (c:UInt8): ∀l:List UInt8,aL c (l++ [c])=aL c l++ [[]]
 | []=>by simp[aL]
 |x::xs=>by
  have ih:=zF c xs
  rw[List.cons_append]
  by_cases hx:x=c
  ·rw[aL,if_pos hx,aL,if_pos hx,ih]<;>rfl
  ·rw[aL,if_neg hx,aL,if_neg hx,ih]
   cases h:aL c xs with
   |nil=>exact absurd h (eH c xs)
   |cons p ps=>rfl
theorem aJ1 (x:Int):dec x≠ []:=by
 unfold dec
 rw[Lib.decDigits]
 split<;>simp
theorem aJu (a:Int)(r:List Int):aT (a::r)≠ []:=by
 intro e
 have:=aJ1 a
 unfold aT dQ at e
 simp at e
 exact this e.1
theorem aE5 (h:aV): ∃y,(dC h).getLast? =some y∧y≠ []:=by
 have e:dC h= [bO h.aA h.aB h.cells,aT [h.free,h.step,h.aD,h.aH],dec h.aC]++(dec h.aI::h.vs.map (fun v=>aT (bH v))):=rfl
 cases hy:(dec h.aI::h.vs.map (fun v=>aT (bH v))).getLast? with
 |none=>simp at hy
 |some y=>
  refine⟨y,by rw[e,List.getLast?_append,hy];rfl,?_⟩
  have hm:=List.mem_of_getLast? hy
  rcases List.mem_cons.1 hm with rfl|hm
  ·exact aJ1 _
  ·obtain⟨v,_,rfl⟩:=List.mem_map.1 hm
   exact aJu _ _
theorem aG7 {l:List UInt8}{h:aV}(hl:aW l=some h):aW (l++ [59])=none:=by
 cases hr:aW (l++ [59])with
 |none=>rfl
 |some h'=>
  exfalso
  obtain⟨ok,ht⟩:=iT hr
  have h1:=sI ok
  rw[ht,zF]at h1
  obtain⟨y,h2,h3⟩:=aE5 h'
  rw[←h1,List.getLast?_append]at h2
  simp at h2
  exact h3 h2
open Go
section
variable {w0 w w':World} {L:List Item}
theorem Mem.own2s {b n c sz n2 c2 sz2:Nat}{e e2:TypeId}{q q2:Option Addr}{xs xs2:List Value}(h:Mem w0 w L)(hx:Ext w w')(ho1:w'.ownsRow b e sz (.slice q n c) n xs)(ho2:w'.ownsRow b e2 sz2 (.slice q2 n2 c2) n2 xs2)(hb:w.heap.size≤b)(ht:e≠e2):
  Mem w0 w' (aP w0.heap.size e sz q n c xs::aP w0.heap.size e2 sz2 q2 n2 c2 xs2::L):=by
 refine(h.ownNew hx ho2 hb).cons (eB _ _ _ _ _ _ _) (fX ho1 (Nat.le_trans h.ext.sz hb)) (fun g' hg' j hj e'=> ?_)
 replace hg':(Value.slice q n c).ownBlock=Option.some g':=hg'
 have h1:=(World.ownsRow.lt ho1 g' hg').1
 rcases List.mem_cons.1 hj with rfl|hj
 ·replace e':(Value.slice q2 n2 c2).ownBlock=Option.some g':=e'
  rcases ho1.2 with⟨h2,_⟩|⟨g2,cap',cur,h2,_,h3,_⟩
  ·rw[h2]at hg';cases hg'
  ·rcases ho2.2 with⟨k2,_⟩|⟨g3,cap3,cur3,k2,_,k3,_⟩
   ·rw[k2]at e';cases e'
   ·rw[h2]at hg';rw[k2]at e'
    injection hg' with hg';injection e' with e'
    have hg'':g2=g':=hg'
    have he'':g3=g':=e'
    subst hg'';subst he''
    rw[h3]at k3
    injection k3 with k3;injection k3 with _ k3
    exact ht k3
 ·have h2:=((h.good j hj).lt w (h.ok j hj) g' e').2
  omega
end
end Go.Proofs.YteejdnmmpmcmeaaGreatDoor
