/-
  Texts of this proof, packed (@packed).
-/
import Derived.Test.YtndcnflchkfaeaaDoorShelf
import Derived.Test.YtndcnflchkfaeaaDoorK1
import Derived.Test.YtndcnflchkfaeaaDoorK2
import Derived.Test.YtndcnflchkfaeaaDoorK4
import Derived.Test.YtndcnflchkfaeaaDoorK8
namespace Go.Proofs.YtndcnflchkfaeaaDoor
open Go.RowKit
set_option linter.unusedVariables false
set_option linter.unusedSimpArgs false
theorem set_books: ∀(vs:List Visit4) (k:Nat) (a b c d:Int),k<vs.length→(((((vs.flatMap visitCells).set (k*4) (.int .i64 a)).set (k*4+1) (.int .i64 b)).set (k*4+2) (.int .i64 c)).set (k*4+3) (.int .i64 d))=(vs.set k (a,b,c,d)).flatMap visitCells
 | [],_,_,_,_,_,h=>by simp at h
 |u::vs,0,a,b,c,d,_=>by simp[visitCells]
 |u::vs,k+1,a,b,c,d,h=>by
  have ih:=set_books vs k a b c d (by simpa using h)
  rw[List.set_cons_succ,List.flatMap_cons,List.flatMap_cons,←ih]
  have e: ∀j,(k+1)*4+j=(k*4+j)+1+1+1+1:=fun j=>by omega
  have e0:(k+1)*4=k*4+1+1+1+1:=by omega
  rw[e 1,e 2,e 3,e0]
  simp[visitCells]
theorem take_drop_at {L:List Visit4}{i:Nat}{x:Visit4}(h:L[i]? =some x):L.drop i=x::L.drop (i+1):=drop_cons h
theorem nodup_take {L:List Visit4}(hd:L.Pairwise (fun a b=>a.1≠b.1)){i:Nat}{x:Visit4}(h:L[i]? =some x): ∀y∈L.take i,y.1≠x.1:=by
 intro y hy
 obtain⟨j,hj,e⟩:=List.mem_take_iff_getElem.1 hy
 obtain⟨hi,e2⟩:=List.getElem?_eq_some_iff.1 h
 have:=List.pairwise_iff_getElem.1 hd j i (by omega) hi (by omega)
 rw[e,e2]at this
 exact this
set_option maxRecDepth 100000 in
set_option maxHeartbeats 8000000 in
theorem cmpBook (a0 a1 a2 a3 d0 d1 d2 d3:Int)(w:World):Calls Tryd.prog 78 #[bookV a0 a1 a2 a3,bookV d0 d1 d2 d3] w fun e w'=>e= .returned (.int .i64 (cmpI a0 d0))∧Ext w w':=by
 have HC:=Lib.hid (fun w=>compareI a0 d0 w)
 go_enter Tryd.func78,Tryd.ntmps78
 go_wp2_with fail
 refine(HC.out _).mono ?_
 rintro e w1 ⟨rfl,h1⟩
 go_wp2
 go_ret
 exact⟨rfl,by(repeat' (first|exact Ext.refl _|(with_reducible assumption)|(with_reducible refine Ext.alloc ?_ _)|(with_reducible refine Ext.setCell ?_ (by first|exact Nat.le_refl _|(dsimp only;omega)|(simp;done)|(simp;omega)) _)|(with_reducible refine Ext.drew ?_)|(with_reducible refine Ext.drewN ?_ _)|(refine Ext.trans ?_ (by with_reducible assumption))))⟩
set_option maxRecDepth 100000 in
set_option maxHeartbeats 8000000 in
theorem insBook_o (g n c B:Nat)(L0:List Visit4)(w:World)(hn0:0<n)(hn:n≤12)(hL:L0.length=n)(hD:L0.Pairwise (fun a b=>a.1≠b.1))(hO:w.ownsRow B TBk 4 (.slice (some ⟨g,0,none⟩) n c) n ((L0).flatMap visitCells)):
  Calls Tryd.prog 107 #[.slice (some ⟨g,0,none⟩) n c,.int .i64 0,.int .i64 (n:Int),.func (.func 78) #[] #[]] w fun e w'=>e= .returned (.tuple #[])∧(∃A:List Visit4,A.Perm L0∧A.Pairwise (fun a b=>a.1<b.1)∧w'.ownsRow B TBk 4 (.slice (some ⟨g,0,none⟩) n c) n ((A).flatMap visitCells))∧w.grownBy w' (some g):=by
 have HO0:=Lib.hid hO
 have hl:=Lib.hid hL
 have hd:=Lib.hid hD
 clear hO hL hD
 go_enter Tryd.func107,Tryd.ntmps107
 go_wp2
 go_loopw [8] (fun vi wr=> ∃(i:Nat) (A:List Visit4),1≤i∧i≤n∧vi= .int .i64 (i:Int)∧A.Perm (L0.take i)∧A.Pairwise (fun a b=>a.1<b.1)∧wr.ownsRow B TBk 4 (.slice (some ⟨g,0,none⟩) n c) n ((A++L0.drop i).flatMap visitCells)∧ExtR g w wr) (fun vi _=>n-(intOf vi).toNat)
 case atStart=>
  refine⟨1,L0.take 1,Nat.le_refl _,hn0,by go_num,List.Perm.refl _,?_,by rw[List.take_append_drop];exact HO0.out,ExtR.refl _ _⟩
  cases L0 with
  |nil=>simp
  |cons a L=>simp
 case round=>
  clear HO0
  obtain⟨i,A,hi1,hin,rfl,hAp,hAs,hOA,hR0⟩:=hrel
  have HA:=Lib.hid hOA
  have HAp:=Lib.hid hAp
  have HAs:=Lib.hid hAs
  have HR0:=Lib.hid hR0
  have hAl:A.length=i:=by rw[hAp.length_eq,List.length_take,hl.out];omega
  clear hOA hAp hAs hR0
  by_cases hi:i<n
  ·obtain⟨x,hxi⟩: ∃x,L0[i]? =some x:=⟨_,List.getElem?_eq_getElem (by rw[hl.out];exact hi)⟩
   obtain⟨x0,x1,x2,x3⟩:=x
   have hst:=Lib.hid (take_drop_at hxi)
   have htk:=Lib.hid (take_snocL hxi)
   have hne:=Lib.hid (nodup_take hd.out hxi)
   clear hxi
   go_wp2
   go_loopw [9] (fun vj wr=> ∃(J:Int) (A1 B1:List Visit4),vj= .int .i64 J∧J=(A1.length:Int)∧A1.length≤i∧(A1++B1).Perm (L0.take i)∧(A1++B1).Pairwise (fun a b=>a.1<b.1)∧(∀b∈B1,x0<b.1)∧wr.ownsRow B TBk 4 (.slice (some ⟨g,0,none⟩) n c) n ((A1++(x0,x1,x2,x3)::(B1++L0.drop (i+1))).flatMap visitCells)∧ExtR g w wr) (fun vj _=>(intOf vj).toNat)
   case atStart=>exact⟨(i:Int),A,[],rfl,by rw[hAl],by omega,by simpa using HAp.out,by simpa using HAs.out,by simp,by have:=HA.out;rw[hst.out]at this;simpa using this,HR0.out⟩
   case round=>
    clear HA HAp HAs HR0
    obtain⟨J,A1,B1,rfl,hJ,hA1,hp,hs,hb,hOJ,hR⟩:=hrel
    have HJ:=Lib.hid hOJ
    clear hOJ
    have hg2:g<wr.heap.size:=(HJ.out.lt g rfl).2
    rcases list_end A1 with rfl|⟨A2,y,rfl⟩
    ·have hex:=Lib.hid (insb_exit (x:=(x0,x1,x2,x3)) hp hs hne.out hb (.inl rfl))
     obtain rfl:J=0:=by simpa using hJ
     clear hp hs hb hJ
     go_wp2
     refine region_lin (gl [gEq (.int .i64 0),gEq (.int .i64 0),gEq (.bool false),gEq (.bool false),gEq (undef),gEq (undef),gEq (undef),gEq (undef),gEq (undef),gEq (undef),gEq (undef),gEq (undef),gEq (undef),gEq (undef),gEq (undef),gEq (undef),gEq (.bool false)]) 17 (by kernel_rfl) rfl (by kernel_rfl) (by kernel_rfl) (by kernel_rfl) (gl_mono (gl_cons (gEq_mono _) (gl_cons (gEq_mono _) (gl_cons (gEq_mono _) (gl_cons (gEq_mono _) (gl_cons (gEq_mono _) (gl_cons (gEq_mono _) (gl_cons (gEq_mono _) (gl_cons (gEq_mono _) (gl_cons (gEq_mono _) (gl_cons (gEq_mono _) (gl_cons (gEq_mono _) (gl_cons (gEq_mono _) (gl_cons (gEq_mono _) (gl_cons (gEq_mono _) (gl_cons (gEq_mono _) (gl_cons (gEq_mono _) (gl_cons (gEq_mono _) (gl_nil))))))))))))))))))) (k:=17) (by kernel_rfl) (by decide) (ls:= [(0,some 18),(1,some 19),(2,some 20),(3,some 21),(4,some 22),(5,some 23),(6,some 24),(7,some 25),(8,some 26),(9,some 27),(10,some 28),(11,some 29),(12,some 30),(13,some 31),(14,some 32),(15,some 33),(16,some 34)]) (by kernel_rfl) (ir:= [0,1,2,3,4,5,6,7,8,9,10,11,12,13,14,15,16]) (by kernel_rfl) ?steps (tl:=#[true,true,true,true,true,true,true,true,true,true,true,true,true,true,true,true,true]) (by kernel_rfl) ?fin
     case steps=>
      refine StepsL.cons (ps:= []) rfl (by kernel_rfl) (fun wi hx=> ?_) ?_
      ·intro K hK
       go_simp
       exact hK _ _ ⟨.int .i64 0,rfl,rfl,Ext.refl _⟩
      refine StepsL.cons (ps:= []) rfl (by kernel_rfl) (fun wi hx=> ?_) ?_
      ·intro K hK
       go_simp
       exact hK _ _ ⟨.int .i64 0,rfl,rfl,Ext.refl _⟩
      refine StepsL.cons (ps:= [(0,some 18),(1,some 19)]) rfl (by kernel_rfl) (fun wi hx=> ?_) ?_
      ·intro v0 h0 v1 h1 K hK
       obtain rfl:=h0
       obtain rfl:=h1
       go_simp
       exact hK _ _ ⟨.bool false,rfl,rfl,Ext.refl _⟩
      refine StepsL.cons (ps:= [(2,some 20)]) rfl (by kernel_rfl) (fun wi hx=> ?_) ?_
      ·intro v2 h2 K hK
       obtain rfl:=h2
       go_simp
       exact hK _ _ ⟨.bool false,rfl,rfl,Ext.refl _⟩
      refine StepsL.cons (ps:= [(3,some 21)]) rfl (by kernel_rfl) (fun wi hx=> ?_) ?_
      ·intro v3 h3 K hK
       obtain rfl:=h3
       go_simp
       exact hK _ _ ⟨undef,rfl,rfl,Ext.refl _⟩
      refine StepsL.cons (ps:= [(3,some 21)]) rfl (by kernel_rfl) (fun wi hx=> ?_) ?_
      ·intro v3 h3 K hK
       obtain rfl:=h3
       go_simp
       exact hK _ _ ⟨undef,rfl,rfl,Ext.refl _⟩
      refine StepsL.cons (ps:= [(3,some 21)]) rfl (by kernel_rfl) (fun wi hx=> ?_) ?_
      ·intro v3 h3 K hK
       obtain rfl:=h3
       go_simp
       exact hK _ _ ⟨undef,rfl,rfl,Ext.refl _⟩
      refine StepsL.cons (ps:= [(3,some 21),(5,some 23),(6,some 24)]) rfl (by kernel_rfl) (fun wi hx=> ?_) ?_
      ·intro v3 h3 v5 h5 v6 h6 K hK
       obtain rfl:=h3
       obtain rfl:=h5
       obtain rfl:=h6
       go_simp
       exact hK _ _ ⟨undef,rfl,rfl,Ext.refl _⟩
      refine StepsL.cons (ps:= [(3,some 21),(7,some 25)]) rfl (by kernel_rfl) (fun wi hx=> ?_) ?_
      ·intro v3 h3 v7 h7 K hK
       obtain rfl:=h3
       obtain rfl:=h7
       go_simp
       exact hK _ _ ⟨undef,rfl,rfl,Ext.refl _⟩
      refine StepsL.cons (ps:= [(3,some 21)]) rfl (by kernel_rfl) (fun wi hx=> ?_) ?_
      ·intro v3 h3 K hK
       obtain rfl:=h3
       go_simp
       exact hK _ _ ⟨undef,rfl,rfl,Ext.refl _⟩
      refine StepsL.cons (ps:= [(3,some 21)]) rfl (by kernel_rfl) (fun wi hx=> ?_) ?_
      ·intro v3 h3 K hK
       obtain rfl:=h3
       go_simp
       exact hK _ _ ⟨undef,rfl,rfl,Ext.refl _⟩
      refine StepsL.cons (ps:= [(3,some 21),(10,some 28)]) rfl (by kernel_rfl) (fun wi hx=> ?_) ?_
      ·intro v3 h3 v10 h10 K hK
       obtain rfl:=h3
       obtain rfl:=h10
       go_simp
       exact hK _ _ ⟨undef,rfl,rfl,Ext.refl _⟩
      refine StepsL.cons (ps:= [(3,some 21),(9,some 27),(11,some 29)]) rfl (by kernel_rfl) (fun wi hx=> ?_) ?_
      ·intro v3 h3 v9 h9 v11 h11 K hK
       obtain rfl:=h3
       obtain rfl:=h9
       obtain rfl:=h11
       go_simp
       exact hK _ _ ⟨undef,rfl,rfl,Ext.refl _⟩
      refine StepsL.cons (ps:= [(3,some 21),(12,some 30)]) rfl (by kernel_rfl) (fun wi hx=> ?_) ?_
      ·intro v3 h3 v12 h12 K hK
       obtain rfl:=h3
       obtain rfl:=h12
       go_simp
       exact hK _ _ ⟨undef,rfl,rfl,Ext.refl _⟩
      refine StepsL.cons (ps:= [(3,some 21),(4,some 22),(8,some 26),(13,some 31)]) rfl (by kernel_rfl) (fun wi hx=> ?_) ?_
      ·intro v3 h3 v4 h4 v8 h8 v13 h13 K hK
       obtain rfl:=h3
       obtain rfl:=h4
       obtain rfl:=h8
       obtain rfl:=h13
       go_simp
       exact hK _ _ ⟨undef,rfl,rfl,Ext.refl _⟩
      refine StepsL.cons (ps:= [(3,some 21),(14,some 32)]) rfl (by kernel_rfl) (fun wi hx=> ?_) ?_
      ·intro v3 h3 v14 h14 K hK
       obtain rfl:=h3
       obtain rfl:=h14
       go_simp
       exact hK _ _ ⟨undef,rfl,rfl,Ext.refl _⟩
      refine StepsL.cons (ps:= [(3,some 21),(15,some 33)]) rfl (by kernel_rfl) (fun wi hx=> ?_) StepsL.nil
      ·intro v3 h3 v15 h15 K hK
       obtain rfl:=h3
       obtain rfl:=h15
       go_simp
       exact hK _ _ ⟨.bool false,rfl,rfl,Ext.refl _⟩
     case fin=>
      intro wi hx v0 h0 v1 h1 v2 h2 v3 h3 v4 h4 v5 h5 v6 h6 v7 h7 v8 h8 v9 h9 v10 h10 v11 h11 v12 h12 v13 h13 v14 h14 v15 h15 v16 h16
      obtain rfl:=h0
      obtain rfl:=h1
      obtain rfl:=h2
      obtain rfl:=h3
      obtain rfl:=h4
      obtain rfl:=h5
      obtain rfl:=h6
      obtain rfl:=h7
      obtain rfl:=h8
      obtain rfl:=h9
      obtain rfl:=h10
      obtain rfl:=h11
      obtain rfl:=h12
      obtain rfl:=h13
      obtain rfl:=h14
      obtain rfl:=h15
      obtain rfl:=h16
      refine wpAny_done (by kernel_rfl) ?_ _
      try simp only[Act.put,List.setIfInBounds_toArray,List.set_cons_zero,List.set_cons_succ]
      have hx':=hx.of_drew
      have hR2:=Lib.hid (hR.ext hx')
      have HO2:=Lib.hid (own_ext HJ.out hx')
      go_wp2
      go_roundw
      case rel=>exact⟨i+1,_,by omega,by omega,by go_num,by rw[htk.out];exact hex.out.1,hex.out.2,by have:=HO2.out;simpa[List.append_assoc]using this,hR2.out⟩
      case measure=>simp[intOf];omega
    ·obtain⟨y0,y1,y2,y3⟩:=y
     obtain⟨jp,hjp⟩: ∃jp,A2.length=jp:=⟨_,rfl⟩
     have hJp:J=(jp:Int)+1:=by rw[hJ];simp[hjp]
     have hji:jp+1≤i:=by have:=hA1;simp[hjp]at this;omega
     have hlj:((A2++ [(y0,y1,y2,y3)])++(x0,x1,x2,x3)::(B1++L0.drop (i+1)))[jp+1]? =some (x0,x1,x2,x3):=by simp[List.getElem?_append,hjp]
     have hlx:((A2++ [(y0,y1,y2,y3)])++(x0,x1,x2,x3)::(B1++L0.drop (i+1)))[jp]? =some (y0,y1,y2,y3):=by simp[List.getElem?_append,hjp]
     have cj0:wr.cell? ⟨g,(jp+1)*4,none⟩=some (.int .i64 x0):=(HJ.out.cellAt _ (by omega)).trans (flat_get visitCells 4 (fun _=>rfl) _ _ _ hlj 0 (by omega))
     have cx0:wr.cell? ⟨g,jp*4,none⟩=some (.int .i64 y0):=(HJ.out.cellAt _ (by omega)).trans (flat_get visitCells 4 (fun _=>rfl) _ _ _ hlx 0 (by omega))
     have cj1:wr.cell? ⟨g,(jp+1)*4+1,none⟩=some (.int .i64 x1):=(HJ.out.cellAt _ (by omega)).trans (flat_get visitCells 4 (fun _=>rfl) _ _ _ hlj 1 (by omega))
     have cx1:wr.cell? ⟨g,jp*4+1,none⟩=some (.int .i64 y1):=(HJ.out.cellAt _ (by omega)).trans (flat_get visitCells 4 (fun _=>rfl) _ _ _ hlx 1 (by omega))
     have cj2:wr.cell? ⟨g,(jp+1)*4+2,none⟩=some (.int .i64 x2):=(HJ.out.cellAt _ (by omega)).trans (flat_get visitCells 4 (fun _=>rfl) _ _ _ hlj 2 (by omega))
     have cx2:wr.cell? ⟨g,jp*4+2,none⟩=some (.int .i64 y2):=(HJ.out.cellAt _ (by omega)).trans (flat_get visitCells 4 (fun _=>rfl) _ _ _ hlx 2 (by omega))
     have cj3:wr.cell? ⟨g,(jp+1)*4+3,none⟩=some (.int .i64 x3):=(HJ.out.cellAt _ (by omega)).trans (flat_get visitCells 4 (fun _=>rfl) _ _ _ hlj 3 (by omega))
     have cx3:wr.cell? ⟨g,jp*4+3,none⟩=some (.int .i64 y3):=(HJ.out.cellAt _ (by omega)).trans (flat_get visitCells 4 (fun _=>rfl) _ _ _ hlx 3 (by omega))
     clear hlj hlx hJ
     have q1:J.toNat=jp+1:=by omega
     have q2:(J-1).toNat=jp:=by omega
     have q3:0≤J:=by omega
     have q4:J<(n:Int):=by omega
     have q5:0≤J-1:=by omega
     have q6:J-1<(n:Int):=by omega
     have q7:IntKind.i64.wrap (J-1)=J-1:=IntWalk.i64_in _ (by omega)
     have q8:0<J:=by omega
     have q9:(1:Int)≤J:=by omega
     have HC0:=Lib.hid (fun w=>cmpBook x0 x1 x2 x3 y0 y1 y2 y3 w)
     by_cases hlt:x0<y0
     ·have hz:cmpI x0 y0<0:=(cmpI_lt _ _).2 hlt
      have HJp:=Lib.hid hJp
      have hp2:Hid ((A2++(y0,y1,y2,y3)::B1).Perm (L0.take i)):=by show List.Perm _ _;simpa using hp
      have hs2:Hid ((A2++(y0,y1,y2,y3)::B1).Pairwise (fun a b=>a.1<b.1)):=by show List.Pairwise _ _;simpa using hs
      have hb2:Hid (∀b∈(y0,y1,y2,y3)::B1,x0<b.1):=by
       intro b hb'
       rcases List.mem_cons.1 hb' with rfl|hb'
       ·exact hlt
       ·exact hb b hb'
      clear hp hs hb hlt hJp
      generalize hZ:cmpI x0 y0=Z at hz
      have HC:=Lib.hid (fun w=>by have:=HC0.out w;rw[hZ]at this;exact this)
      clear hZ HC0
      go_wp2
      refine region_lin (gl [gEq (.int .i64 J),gEq (.int .i64 0),gEq (.bool true),gEq (.bool true),gEq (.func (.func 78) #[] #[]),gEq (.slice (some ⟨g,0,none⟩) n c),gEq (.int .i64 J),gEq (.pointer (some ⟨g,(jp+1)*4,none⟩)),gEq (.agg #[.int .i64 x0,.int .i64 x1,.int .i64 x2,.int .i64 x3]),gEq (.slice (some ⟨g,0,none⟩) n c),gEq (.int .i64 J),gEq (.int .i64 (J-1)),gEq (.pointer (some ⟨g,jp*4,none⟩)),gEq (.agg #[.int .i64 y0,.int .i64 y1,.int .i64 y2,.int .i64 y3]),gEq (.int .i64 Z),gEq (.bool true),gEq (.bool true)]) 17 (by kernel_rfl) rfl (by kernel_rfl) (by kernel_rfl) (by kernel_rfl) (gl_mono (gl_cons (gEq_mono _) (gl_cons (gEq_mono _) (gl_cons (gEq_mono _) (gl_cons (gEq_mono _) (gl_cons (gEq_mono _) (gl_cons (gEq_mono _) (gl_cons (gEq_mono _) (gl_cons (gEq_mono _) (gl_cons (gEq_mono _) (gl_cons (gEq_mono _) (gl_cons (gEq_mono _) (gl_cons (gEq_mono _) (gl_cons (gEq_mono _) (gl_cons (gEq_mono _) (gl_cons (gEq_mono _) (gl_cons (gEq_mono _) (gl_cons (gEq_mono _) (gl_nil))))))))))))))))))) (k:=17) (by kernel_rfl) (by decide) (ls:= [(0,some 18),(1,some 19),(2,some 20),(3,some 21),(4,some 22),(5,some 23),(6,some 24),(7,some 25),(8,some 26),(9,some 27),(10,some 28),(11,some 29),(12,some 30),(13,some 31),(14,some 32),(15,some 33),(16,some 34)]) (by kernel_rfl) (ir:= [0,1,2,3,4,5,6,7,8,9,10,11,12,13,14,15,16]) (by kernel_rfl) ?steps (tl:=#[true,true,true,true,true,true,true,true,true,true,true,true,true,true,true,true,true]) (by kernel_rfl) ?fin
      case steps=>
       refine StepsL.cons (ps:= []) rfl (by kernel_rfl) (fun wi hx=> ?_) ?_
       ·intro K hK
        go_simp
        exact hK _ _ ⟨.int .i64 J,rfl,rfl,Ext.refl _⟩
       refine StepsL.cons (ps:= []) rfl (by kernel_rfl) (fun wi hx=> ?_) ?_
       ·intro K hK
        go_simp
        exact hK _ _ ⟨.int .i64 0,rfl,rfl,Ext.refl _⟩
       refine StepsL.cons (ps:= [(0,some 18),(1,some 19)]) rfl (by kernel_rfl) (fun wi hx=> ?_) ?_
       ·intro v0 h0 v1 h1 K hK
        obtain rfl:=h0
        obtain rfl:=h1
        go_simp
        exact hK _ _ ⟨.bool true,rfl,rfl,Ext.refl _⟩
       refine StepsL.cons (ps:= [(2,some 20)]) rfl (by kernel_rfl) (fun wi hx=> ?_) ?_
       ·intro v2 h2 K hK
        obtain rfl:=h2
        go_simp
        exact hK _ _ ⟨.bool true,rfl,rfl,Ext.refl _⟩
       refine StepsL.cons (ps:= [(3,some 21)]) rfl (by kernel_rfl) (fun wi hx=> ?_) ?_
       ·intro v3 h3 K hK
        obtain rfl:=h3
        go_simp
        exact hK _ _ ⟨.func (.func 78) #[] #[],rfl,rfl,Ext.refl _⟩
       refine StepsL.cons (ps:= [(3,some 21)]) rfl (by kernel_rfl) (fun wi hx=> ?_) ?_
       ·intro v3 h3 K hK
        obtain rfl:=h3
        go_simp
        exact hK _ _ ⟨.slice (some ⟨g,0,none⟩) n c,rfl,rfl,Ext.refl _⟩
       refine StepsL.cons (ps:= [(3,some 21)]) rfl (by kernel_rfl) (fun wi hx=> ?_) ?_
       ·intro v3 h3 K hK
        obtain rfl:=h3
        go_simp
        exact hK _ _ ⟨.int .i64 J,rfl,rfl,Ext.refl _⟩
       refine StepsL.cons (ps:= [(3,some 21),(5,some 23),(6,some 24)]) rfl (by kernel_rfl) (fun wi hx=> ?_) ?_
       ·intro v3 h3 v5 h5 v6 h6 K hK
        obtain rfl:=h3
        obtain rfl:=h5
        obtain rfl:=h6
        go_simp
        exact hK _ _ ⟨.pointer (some ⟨g,(jp+1)*4,none⟩),rfl,rfl,Ext.refl _⟩
       refine StepsL.cons (ps:= [(3,some 21),(7,some 25)]) rfl (by kernel_rfl) (fun wi hx=> ?_) ?_
       ·intro v3 h3 v7 h7 K hK
        obtain rfl:=h3
        obtain rfl:=h7
        have hX:Ext wr wi:=by(repeat' (first|exact Ext.refl _|(with_reducible assumption)|(with_reducible refine Ext.alloc ?_ _)|(with_reducible refine Ext.setCell ?_ (by first|exact Nat.le_refl _|(dsimp only;omega)|(simp;done)|(simp;omega)) _)|(with_reducible refine Ext.drew ?_)|(with_reducible refine Ext.drewN ?_ _)|(refine Ext.trans ?_ (by with_reducible assumption))))
        have cl0:wi.cell? ⟨g,(jp+1)*4,none⟩=some (.int .i64 x0):=(hX.cells.1 _ _ hg2).trans cj0
        have cl1:wi.cell? ⟨g,(jp+1)*4+1,none⟩=some (.int .i64 x1):=(hX.cells.1 _ _ hg2).trans cj1
        have cl2:wi.cell? ⟨g,(jp+1)*4+2,none⟩=some (.int .i64 x2):=(hX.cells.1 _ _ hg2).trans cj2
        have cl3:wi.cell? ⟨g,(jp+1)*4+3,none⟩=some (.int .i64 x3):=(hX.cells.1 _ _ hg2).trans cj3
        go_simp
        exact hK _ _ ⟨.agg #[.int .i64 x0,.int .i64 x1,.int .i64 x2,.int .i64 x3],rfl,rfl,Ext.refl _⟩
       refine StepsL.cons (ps:= [(3,some 21)]) rfl (by kernel_rfl) (fun wi hx=> ?_) ?_
       ·intro v3 h3 K hK
        obtain rfl:=h3
        go_simp
        exact hK _ _ ⟨.slice (some ⟨g,0,none⟩) n c,rfl,rfl,Ext.refl _⟩
       refine StepsL.cons (ps:= [(3,some 21)]) rfl (by kernel_rfl) (fun wi hx=> ?_) ?_
       ·intro v3 h3 K hK
        obtain rfl:=h3
        go_simp
        exact hK _ _ ⟨.int .i64 J,rfl,rfl,Ext.refl _⟩
       refine StepsL.cons (ps:= [(3,some 21),(10,some 28)]) rfl (by kernel_rfl) (fun wi hx=> ?_) ?_
       ·intro v3 h3 v10 h10 K hK
        obtain rfl:=h3
        obtain rfl:=h10
        go_simp
        exact hK _ _ ⟨.int .i64 (J-1),rfl,rfl,Ext.refl _⟩
       refine StepsL.cons (ps:= [(3,some 21),(9,some 27),(11,some 29)]) rfl (by kernel_rfl) (fun wi hx=> ?_) ?_
       ·intro v3 h3 v9 h9 v11 h11 K hK
        obtain rfl:=h3
        obtain rfl:=h9
        obtain rfl:=h11
        go_simp
        exact hK _ _ ⟨.pointer (some ⟨g,jp*4,none⟩),rfl,rfl,Ext.refl _⟩
       refine StepsL.cons (ps:= [(3,some 21),(12,some 30)]) rfl (by kernel_rfl) (fun wi hx=> ?_) ?_
       ·intro v3 h3 v12 h12 K hK
        obtain rfl:=h3
        obtain rfl:=h12
        have hX:Ext wr wi:=by(repeat' (first|exact Ext.refl _|(with_reducible assumption)|(with_reducible refine Ext.alloc ?_ _)|(with_reducible refine Ext.setCell ?_ (by first|exact Nat.le_refl _|(dsimp only;omega)|(simp;done)|(simp;omega)) _)|(with_reducible refine Ext.drew ?_)|(with_reducible refine Ext.drewN ?_ _)|(refine Ext.trans ?_ (by with_reducible assumption))))
        have cl0:wi.cell? ⟨g,jp*4,none⟩=some (.int .i64 y0):=(hX.cells.1 _ _ hg2).trans cx0
        have cl1:wi.cell? ⟨g,jp*4+1,none⟩=some (.int .i64 y1):=(hX.cells.1 _ _ hg2).trans cx1
        have cl2:wi.cell? ⟨g,jp*4+2,none⟩=some (.int .i64 y2):=(hX.cells.1 _ _ hg2).trans cx2
        have cl3:wi.cell? ⟨g,jp*4+3,none⟩=some (.int .i64 y3):=(hX.cells.1 _ _ hg2).trans cx3
        go_simp
        exact hK _ _ ⟨.agg #[.int .i64 y0,.int .i64 y1,.int .i64 y2,.int .i64 y3],rfl,rfl,Ext.refl _⟩
       refine StepsL.cons (ps:= [(3,some 21),(4,some 22),(8,some 26),(13,some 31)]) rfl (by kernel_rfl) (fun wi hx=> ?_) ?_
       ·intro v3 h3 v4 h4 v8 h8 v13 h13 K hK
        obtain rfl:=h3
        obtain rfl:=h4
        obtain rfl:=h8
        obtain rfl:=h13
        go_simp
        refine(HC.out _).mono ?_
        rintro e w5 ⟨rfl,hx5⟩
        go_simp
        exact hK _ _ ⟨.int .i64 Z,rfl,rfl,hx5⟩
       refine StepsL.cons (ps:= [(3,some 21),(14,some 32)]) rfl (by kernel_rfl) (fun wi hx=> ?_) ?_
       ·intro v3 h3 v14 h14 K hK
        obtain rfl:=h3
        obtain rfl:=h14
        go_simp
        exact hK _ _ ⟨.bool true,rfl,rfl,Ext.refl _⟩
       refine StepsL.cons (ps:= [(3,some 21),(15,some 33)]) rfl (by kernel_rfl) (fun wi hx=> ?_) StepsL.nil
       ·intro v3 h3 v15 h15 K hK
        obtain rfl:=h3
        obtain rfl:=h15
        go_simp
        exact hK _ _ ⟨.bool true,rfl,rfl,Ext.refl _⟩
      case fin=>
       intro wi hx v0 h0 v1 h1 v2 h2 v3 h3 v4 h4 v5 h5 v6 h6 v7 h7 v8 h8 v9 h9 v10 h10 v11 h11 v12 h12 v13 h13 v14 h14 v15 h15 v16 h16
       obtain rfl:=h0
       obtain rfl:=h1
       obtain rfl:=h2
       obtain rfl:=h3
       obtain rfl:=h4
       obtain rfl:=h5
       obtain rfl:=h6
       obtain rfl:=h7
       obtain rfl:=h8
       obtain rfl:=h9
       obtain rfl:=h10
       obtain rfl:=h11
       obtain rfl:=h12
       obtain rfl:=h13
       obtain rfl:=h14
       obtain rfl:=h15
       obtain rfl:=h16
       refine wpAny_done (by kernel_rfl) ?_ _
       try simp only[Act.put,List.setIfInBounds_toArray,List.set_cons_zero,List.set_cons_succ]
       have hx':=hx.of_drew
       have hR2:=Lib.hid (hR.ext hx')
       have HO2:=Lib.hid (own_ext HJ.out hx')
       have fj0:wi.frozen? ⟨g,(jp+1)*4,none⟩=false:=HO2.out.frozenAt _
       have fx0:wi.frozen? ⟨g,jp*4,none⟩=false:=HO2.out.frozenAt _
       replace cj0:=(hx'.cells.1 _ _ hg2).trans cj0
       replace cx0:=(hx'.cells.1 _ _ hg2).trans cx0
       have fj1:wi.frozen? ⟨g,(jp+1)*4+1,none⟩=false:=HO2.out.frozenAt _
       have fx1:wi.frozen? ⟨g,jp*4+1,none⟩=false:=HO2.out.frozenAt _
       replace cj1:=(hx'.cells.1 _ _ hg2).trans cj1
       replace cx1:=(hx'.cells.1 _ _ hg2).trans cx1
       have fj2:wi.frozen? ⟨g,(jp+1)*4+2,none⟩=false:=HO2.out.frozenAt _
       have fx2:wi.frozen? ⟨g,jp*4+2,none⟩=false:=HO2.out.frozenAt _
       replace cj2:=(hx'.cells.1 _ _ hg2).trans cj2
       replace cx2:=(hx'.cells.1 _ _ hg2).trans cx2
       have fj3:wi.frozen? ⟨g,(jp+1)*4+3,none⟩=false:=HO2.out.frozenAt _
       have fx3:wi.frozen? ⟨g,jp*4+3,none⟩=false:=HO2.out.frozenAt _
       replace cj3:=(hx'.cells.1 _ _ hg2).trans cj3
       replace cx3:=(hx'.cells.1 _ _ hg2).trans cx3
       clear hx hx'
       go_wp2
       go_region
       have HS2:=Lib.hid (own_ext ((((((((HO2.out.stored ((jp+1)*4) (.int .i64 y0)).1.stored ((jp+1)*4+1) (.int .i64 y1)).1.stored ((jp+1)*4+2) (.int .i64 y2)).1.stored ((jp+1)*4+3) (.int .i64 y3)).1.stored (jp*4) (.int .i64 x0)).1.stored (jp*4+1) (.int .i64 x1)).1.stored (jp*4+2) (.int .i64 x2)).1.stored (jp*4+3) (.int .i64 x3)).1 (Ext.drew (Ext.refl _)))
       have HX2:=Lib.hid (((((((((hR2.out.setCell (p:=⟨g,((jp+1)*4),none⟩) (.inl rfl) (.int .i64 y0)).setCell (p:=⟨g,((jp+1)*4+1),none⟩) (.inl rfl) (.int .i64 y1)).setCell (p:=⟨g,((jp+1)*4+2),none⟩) (.inl rfl) (.int .i64 y2)).setCell (p:=⟨g,((jp+1)*4+3),none⟩) (.inl rfl) (.int .i64 y3)).setCell (p:=⟨g,(jp*4),none⟩) (.inl rfl) (.int .i64 x0)).setCell (p:=⟨g,(jp*4+1),none⟩) (.inl rfl) (.int .i64 x1)).setCell (p:=⟨g,(jp*4+2),none⟩) (.inl rfl) (.int .i64 x2)).setCell (p:=⟨g,(jp*4+3),none⟩) (.inl rfl) (.int .i64 x3)).drew)
       have e1:=set_books ((A2++ [(y0,y1,y2,y3)])++(x0,x1,x2,x3)::(B1++L0.drop (i+1))) (jp+1) y0 y1 y2 y3 (by simp[hjp])
       have e2:=set_books (((A2++ [(y0,y1,y2,y3)])++(x0,x1,x2,x3)::(B1++L0.drop (i+1))).set (jp+1) (y0,y1,y2,y3)) jp x0 x1 x2 x3 (by simp[hjp])
       have e3:(((A2++ [(y0,y1,y2,y3)])++(x0,x1,x2,x3)::(B1++L0.drop (i+1))).set (jp+1) (y0,y1,y2,y3)).set jp (x0,x1,x2,x3)=A2++(x0,x1,x2,x3)::((y0,y1,y2,y3)::B1++L0.drop (i+1)):=by
        have:=swap_at A2 (B1++L0.drop (i+1)) (y0,y1,y2,y3) (x0,x1,x2,x3)
        rw[hjp]at this
        simpa using this
       rw[e1,e2,e3]at HS2
       clear e1 e2 e3 HO2 hR2 fj0 fx0 cj0 cx0 fj1 fx1 cj1 cx1 fj2 fx2 cj2 cx2 fj3 fx3 cj3 cx3
       go_wp2
       go_roundw
       case rel=>exact⟨J-1,A2,(y0,y1,y2,y3)::B1,rfl,by rw[HJp.out];simp[hjp],by omega,hp2.out,hs2.out,hb2.out,HS2.out,HX2.out⟩
       case measure=>simp[intOf];omega
     ·have hz0: ¬cmpI x0 y0<0:=fun h=>hlt ((cmpI_lt _ _).1 h)
      have hex:=Lib.hid (insb_exit (x:=(x0,x1,x2,x3)) hp hs hne.out hb (.inr ⟨A2,_,rfl,by show y0≤x0;omega⟩))
      clear hp hs hb hlt hJp
      generalize hZ:cmpI x0 y0=Z at hz0
      have hz:0≤Z:=by omega
      have hz2:decide (Z<0)=false:=by simp;omega
      have HC:=Lib.hid (fun w=>by have:=HC0.out w;rw[hZ]at this;exact this)
      clear hZ HC0 hz0
      go_wp2
      refine region_lin (gl [gEq (.int .i64 J),gEq (.int .i64 0),gEq (.bool true),gEq (.bool true),gEq (.func (.func 78) #[] #[]),gEq (.slice (some ⟨g,0,none⟩) n c),gEq (.int .i64 J),gEq (.pointer (some ⟨g,(jp+1)*4,none⟩)),gEq (.agg #[.int .i64 x0,.int .i64 x1,.int .i64 x2,.int .i64 x3]),gEq (.slice (some ⟨g,0,none⟩) n c),gEq (.int .i64 J),gEq (.int .i64 (J-1)),gEq (.pointer (some ⟨g,jp*4,none⟩)),gEq (.agg #[.int .i64 y0,.int .i64 y1,.int .i64 y2,.int .i64 y3]),gEq (.int .i64 Z),gEq (.bool false),gEq (.bool false)]) 17 (by kernel_rfl) rfl (by kernel_rfl) (by kernel_rfl) (by kernel_rfl) (gl_mono (gl_cons (gEq_mono _) (gl_cons (gEq_mono _) (gl_cons (gEq_mono _) (gl_cons (gEq_mono _) (gl_cons (gEq_mono _) (gl_cons (gEq_mono _) (gl_cons (gEq_mono _) (gl_cons (gEq_mono _) (gl_cons (gEq_mono _) (gl_cons (gEq_mono _) (gl_cons (gEq_mono _) (gl_cons (gEq_mono _) (gl_cons (gEq_mono _) (gl_cons (gEq_mono _) (gl_cons (gEq_mono _) (gl_cons (gEq_mono _) (gl_cons (gEq_mono _) (gl_nil))))))))))))))))))) (k:=17) (by kernel_rfl) (by decide) (ls:= [(0,some 18),(1,some 19),(2,some 20),(3,some 21),(4,some 22),(5,some 23),(6,some 24),(7,some 25),(8,some 26),(9,some 27),(10,some 28),(11,some 29),(12,some 30),(13,some 31),(14,some 32),(15,some 33),(16,some 34)]) (by kernel_rfl) (ir:= [0,1,2,3,4,5,6,7,8,9,10,11,12,13,14,15,16]) (by kernel_rfl) ?steps (tl:=#[true,true,true,true,true,true,true,true,true,true,true,true,true,true,true,true,true]) (by kernel_rfl) ?fin
      case steps=>
       refine StepsL.cons (ps:= []) rfl (by kernel_rfl) (fun wi hx=> ?_) ?_
       ·intro K hK
        go_simp
        exact hK _ _ ⟨.int .i64 J,rfl,rfl,Ext.refl _⟩
       refine StepsL.cons (ps:= []) rfl (by kernel_rfl) (fun wi hx=> ?_) ?_
       ·intro K hK
        go_simp
        exact hK _ _ ⟨.int .i64 0,rfl,rfl,Ext.refl _⟩
       refine StepsL.cons (ps:= [(0,some 18),(1,some 19)]) rfl (by kernel_rfl) (fun wi hx=> ?_) ?_
       ·intro v0 h0 v1 h1 K hK
        obtain rfl:=h0
        obtain rfl:=h1
        go_simp
        exact hK _ _ ⟨.bool true,rfl,rfl,Ext.refl _⟩
       refine StepsL.cons (ps:= [(2,some 20)]) rfl (by kernel_rfl) (fun wi hx=> ?_) ?_
       ·intro v2 h2 K hK
        obtain rfl:=h2
        go_simp
        exact hK _ _ ⟨.bool true,rfl,rfl,Ext.refl _⟩
       refine StepsL.cons (ps:= [(3,some 21)]) rfl (by kernel_rfl) (fun wi hx=> ?_) ?_
       ·intro v3 h3 K hK
        obtain rfl:=h3
        go_simp
        exact hK _ _ ⟨.func (.func 78) #[] #[],rfl,rfl,Ext.refl _⟩
       refine StepsL.cons (ps:= [(3,some 21)]) rfl (by kernel_rfl) (fun wi hx=> ?_) ?_
       ·intro v3 h3 K hK
        obtain rfl:=h3
        go_simp
        exact hK _ _ ⟨.slice (some ⟨g,0,none⟩) n c,rfl,rfl,Ext.refl _⟩
       refine StepsL.cons (ps:= [(3,some 21)]) rfl (by kernel_rfl) (fun wi hx=> ?_) ?_
       ·intro v3 h3 K hK
        obtain rfl:=h3
        go_simp
        exact hK _ _ ⟨.int .i64 J,rfl,rfl,Ext.refl _⟩
       refine StepsL.cons (ps:= [(3,some 21),(5,some 23),(6,some 24)]) rfl (by kernel_rfl) (fun wi hx=> ?_) ?_
       ·intro v3 h3 v5 h5 v6 h6 K hK
        obtain rfl:=h3
        obtain rfl:=h5
        obtain rfl:=h6
        go_simp
        exact hK _ _ ⟨.pointer (some ⟨g,(jp+1)*4,none⟩),rfl,rfl,Ext.refl _⟩
       refine StepsL.cons (ps:= [(3,some 21),(7,some 25)]) rfl (by kernel_rfl) (fun wi hx=> ?_) ?_
       ·intro v3 h3 v7 h7 K hK
        obtain rfl:=h3
        obtain rfl:=h7
        have hX:Ext wr wi:=by(repeat' (first|exact Ext.refl _|(with_reducible assumption)|(with_reducible refine Ext.alloc ?_ _)|(with_reducible refine Ext.setCell ?_ (by first|exact Nat.le_refl _|(dsimp only;omega)|(simp;done)|(simp;omega)) _)|(with_reducible refine Ext.drew ?_)|(with_reducible refine Ext.drewN ?_ _)|(refine Ext.trans ?_ (by with_reducible assumption))))
        have cl0:wi.cell? ⟨g,(jp+1)*4,none⟩=some (.int .i64 x0):=(hX.cells.1 _ _ hg2).trans cj0
        have cl1:wi.cell? ⟨g,(jp+1)*4+1,none⟩=some (.int .i64 x1):=(hX.cells.1 _ _ hg2).trans cj1
        have cl2:wi.cell? ⟨g,(jp+1)*4+2,none⟩=some (.int .i64 x2):=(hX.cells.1 _ _ hg2).trans cj2
        have cl3:wi.cell? ⟨g,(jp+1)*4+3,none⟩=some (.int .i64 x3):=(hX.cells.1 _ _ hg2).trans cj3
        go_simp
        exact hK _ _ ⟨.agg #[.int .i64 x0,.int .i64 x1,.int .i64 x2,.int .i64 x3],rfl,rfl,Ext.refl _⟩
       refine StepsL.cons (ps:= [(3,some 21)]) rfl (by kernel_rfl) (fun wi hx=> ?_) ?_
       ·intro v3 h3 K hK
        obtain rfl:=h3
        go_simp
        exact hK _ _ ⟨.slice (some ⟨g,0,none⟩) n c,rfl,rfl,Ext.refl _⟩
       refine StepsL.cons (ps:= [(3,some 21)]) rfl (by kernel_rfl) (fun wi hx=> ?_) ?_
       ·intro v3 h3 K hK
        obtain rfl:=h3
        go_simp
        exact hK _ _ ⟨.int .i64 J,rfl,rfl,Ext.refl _⟩
       refine StepsL.cons (ps:= [(3,some 21),(10,some 28)]) rfl (by kernel_rfl) (fun wi hx=> ?_) ?_
       ·intro v3 h3 v10 h10 K hK
        obtain rfl:=h3
        obtain rfl:=h10
        go_simp
        exact hK _ _ ⟨.int .i64 (J-1),rfl,rfl,Ext.refl _⟩
       refine StepsL.cons (ps:= [(3,some 21),(9,some 27),(11,some 29)]) rfl (by kernel_rfl) (fun wi hx=> ?_) ?_
       ·intro v3 h3 v9 h9 v11 h11 K hK
        obtain rfl:=h3
        obtain rfl:=h9
        obtain rfl:=h11
        go_simp
        exact hK _ _ ⟨.pointer (some ⟨g,jp*4,none⟩),rfl,rfl,Ext.refl _⟩
       refine StepsL.cons (ps:= [(3,some 21),(12,some 30)]) rfl (by kernel_rfl) (fun wi hx=> ?_) ?_
       ·intro v3 h3 v12 h12 K hK
        obtain rfl:=h3
        obtain rfl:=h12
        have hX:Ext wr wi:=by(repeat' (first|exact Ext.refl _|(with_reducible assumption)|(with_reducible refine Ext.alloc ?_ _)|(with_reducible refine Ext.setCell ?_ (by first|exact Nat.le_refl _|(dsimp only;omega)|(simp;done)|(simp;omega)) _)|(with_reducible refine Ext.drew ?_)|(with_reducible refine Ext.drewN ?_ _)|(refine Ext.trans ?_ (by with_reducible assumption))))
        have cl0:wi.cell? ⟨g,jp*4,none⟩=some (.int .i64 y0):=(hX.cells.1 _ _ hg2).trans cx0
        have cl1:wi.cell? ⟨g,jp*4+1,none⟩=some (.int .i64 y1):=(hX.cells.1 _ _ hg2).trans cx1
        have cl2:wi.cell? ⟨g,jp*4+2,none⟩=some (.int .i64 y2):=(hX.cells.1 _ _ hg2).trans cx2
        have cl3:wi.cell? ⟨g,jp*4+3,none⟩=some (.int .i64 y3):=(hX.cells.1 _ _ hg2).trans cx3
        go_simp
        exact hK _ _ ⟨.agg #[.int .i64 y0,.int .i64 y1,.int .i64 y2,.int .i64 y3],rfl,rfl,Ext.refl _⟩
       refine StepsL.cons (ps:= [(3,some 21),(4,some 22),(8,some 26),(13,some 31)]) rfl (by kernel_rfl) (fun wi hx=> ?_) ?_
       ·intro v3 h3 v4 h4 v8 h8 v13 h13 K hK
        obtain rfl:=h3
        obtain rfl:=h4
        obtain rfl:=h8
        obtain rfl:=h13
        go_simp
        refine(HC.out _).mono ?_
        rintro e w5 ⟨rfl,hx5⟩
        go_simp
        exact hK _ _ ⟨.int .i64 Z,rfl,rfl,hx5⟩
       refine StepsL.cons (ps:= [(3,some 21),(14,some 32)]) rfl (by kernel_rfl) (fun wi hx=> ?_) ?_
       ·intro v3 h3 v14 h14 K hK
        obtain rfl:=h3
        obtain rfl:=h14
        go_simp
        exact hK _ _ ⟨.bool false,rfl,rfl,Ext.refl _⟩
       refine StepsL.cons (ps:= [(3,some 21),(15,some 33)]) rfl (by kernel_rfl) (fun wi hx=> ?_) StepsL.nil
       ·intro v3 h3 v15 h15 K hK
        obtain rfl:=h3
        obtain rfl:=h15
        go_simp
        exact hK _ _ ⟨.bool false,rfl,rfl,Ext.refl _⟩
      case fin=>
       intro wi hx v0 h0 v1 h1 v2 h2 v3 h3 v4 h4 v5 h5 v6 h6 v7 h7 v8 h8 v9 h9 v10 h10 v11 h11 v12 h12 v13 h13 v14 h14 v15 h15 v16 h16
       obtain rfl:=h0
       obtain rfl:=h1
       obtain rfl:=h2
       obtain rfl:=h3
       obtain rfl:=h4
       obtain rfl:=h5
       obtain rfl:=h6
       obtain rfl:=h7
       obtain rfl:=h8
       obtain rfl:=h9
       obtain rfl:=h10
       obtain rfl:=h11
       obtain rfl:=h12
       obtain rfl:=h13
       obtain rfl:=h14
       obtain rfl:=h15
       obtain rfl:=h16
       refine wpAny_done (by kernel_rfl) ?_ _
       try simp only[Act.put,List.setIfInBounds_toArray,List.set_cons_zero,List.set_cons_succ]
       have hx':=hx.of_drew
       have hR2:=Lib.hid (hR.ext hx')
       have HO2:=Lib.hid (own_ext HJ.out hx')
       go_wp2
       go_roundw
       case rel=>exact⟨i+1,_,by omega,by omega,by go_num,by rw[htk.out];exact hex.out.1,hex.out.2,by have:=HO2.out;simpa[List.append_assoc]using this,hR2.out⟩
       case measure=>simp[intOf];omega
  ·obtain rfl:i=n:=by omega
   have e1:L0.take i=L0:=List.take_of_length_le (by rw[hl.out];exact Nat.le_refl _)
   have e2:L0.drop i= []:=List.drop_of_length_le (by rw[hl.out];exact Nat.le_refl _)
   rw[e1]at HAp
   rw[e2,List.append_nil]at HA
   clear e1 e2
   go_wp2
   go_end0
   exact⟨rfl,⟨A,HAp.out,HAs.out,HA.out⟩,HR0.out⟩
theorem insBook (g n c B:Nat)(T:List Visit4)(b:Visit4)(w:World)(hn:n≤12)(hL:T.length+1=n)(hup:(T.map (·.1)).Pairwise (·< ·))(hne: ∀c∈T,b.1≠c.1)(hO:w.ownsRow B TBk 4 (.slice (some ⟨g,0,none⟩) n c) n ((T++ [b]).flatMap visitCells)):
  Calls Tryd.prog 107 #[.slice (some ⟨g,0,none⟩) n c,.int .i64 0,.int .i64 (n:Int),.func (.func 78) #[] #[]] w (fun e w'=>e= .returned (.tuple #[])∧w'.ownsRow B TBk 4 (.slice (some ⟨g,0,none⟩) n c) n ((putBook T b).flatMap visitCells)∧w.grownBy w' (some g)):=by
 refine(insBook_o g n c B (T++ [b]) w (by omega) hn (by simp;omega) ?_ hO).mono ?_
 ·rw[List.pairwise_append]
  refine⟨(List.pairwise_map.1 hup).imp (fun h=>by omega),by simp,?_⟩
  intro x hx y hy
  obtain rfl:=List.mem_singleton.1 hy
  exact fun e=>hne x hx e.symm
 ·rintro e w' ⟨rfl,⟨A,h1,h2,h3⟩,h4⟩
  rw[insb_done h1 h2 hup hne]at h3
  exact⟨rfl,h3,h4⟩
set_option maxRecDepth 100000 in
set_option maxHeartbeats 8000000 in
theorem pdqBook (g n c B:Nat)(T:List Visit4)(b:Visit4)(w:World)(hn:n≤12)(hL:T.length+1=n)(hup:(T.map (·.1)).Pairwise (·< ·))(hne: ∀c∈T,b.1≠c.1)(hO:w.ownsRow B TBk 4 (.slice (some ⟨g,0,none⟩) n c) n ((T++ [b]).flatMap visitCells))(lim:Int):
  Calls Tryd.prog 91 #[.slice (some ⟨g,0,none⟩) n c,.int .i64 0,.int .i64 (n:Int),.int .i64 lim,.func (.func 78) #[] #[]] w (fun e w'=>e= .returned (.tuple #[])∧w'.ownsRow B TBk 4 (.slice (some ⟨g,0,none⟩) n c) n ((putBook T b).flatMap visitCells)∧w.grownBy w' (some g)):=by
 have HI:=Lib.hid (insBook g n c B T b w hn hL hup hne hO)
 have t1:(n:Int)≤12:=by omega
 clear hL hup hne hO
 go_enter Tryd.func91,Tryd.ntmps91
 go_wp2
 refine wp_loop_rounds 1 ?_
 rw[rounds_succ]
 go_wp2_with fail
 refine HI.out.mono ?_
 rintro e w1 ⟨rfl,h1,h2⟩
 have H1:=Lib.hid h1
 have H2:=Lib.hid h2
 clear h1 h2
 go_wp2
 (try simp only[Exit.inBlock,Exit.then])
 refine bodyPost_ret (results_none rfl _ _ _) rfl ?_
 exact⟨rfl,H1.out,H2.out⟩
set_option maxRecDepth 100000 in
set_option maxHeartbeats 8000000 in
theorem bitsLen (x:Int)(w:World)(h0:0≤x)(h1:x≤18446744073709551615):Calls Tryd.prog 84 #[.int .u64 x] w fun e w'=>(∃l:Int,e= .returned (.int .i64 l))∧w=w':=by
 have HL:=Lib.hid (Tryd.bits_Len64 x w h0 h1)
 go_enter Tryd.func84,Tryd.ntmps84
 go_wp2_with fail
 refine HL.out.mono ?_
 rintro e w1 ⟨rfl,rfl⟩
 go_wp2
 go_ret
 exact⟨⟨_,rfl⟩,rfl⟩
set_option maxRecDepth 100000 in
set_option maxHeartbeats 8000000 in
theorem sortBook (g n c B:Nat)(T:List Visit4)(b:Visit4)(w:World)(hn:n≤12)(hL:T.length+1=n)(hup:(T.map (·.1)).Pairwise (·< ·))(hne: ∀c∈T,b.1≠c.1)(hO:w.ownsRow B TBk 4 (.slice (some ⟨g,0,none⟩) n c) n ((T++ [b]).flatMap visitCells)):
  Calls Tryd.prog 77 #[.slice (some ⟨g,0,none⟩) n c,.func (.func 78) #[] #[]] w (fun e w'=>e= .returned (.tuple #[])∧w'.ownsRow B TBk 4 (.slice (some ⟨g,0,none⟩) n c) n ((putBook T b).flatMap visitCells)∧w.grownBy w' (some g)):=by
 have HI:=Lib.hid (fun lim=>pdqBook g n c B T b w hn hL hup hne hO lim)
 have HB:=Lib.hid (bitsLen (n:Int) w (by omega) (by omega))
 have hwr:IntKind.u64.wrap (n:Int)=(n:Int):=by rw[IntKind.wrap_u64];omega
 clear hL hup hne hO
 go_enter Tryd.func77,Tryd.ntmps77
 go_wp2_with fail
 refine HB.out.mono ?_
 rintro e w0 ⟨⟨l,rfl⟩,rfl⟩
 go_wp2_with fail
 refine(HI.out l).mono ?_
 rintro e w1 ⟨rfl,h1,h2⟩
 have H1:=Lib.hid h1
 have H2:=Lib.hid h2
 clear h1 h2
 go_wp2
 go_end0
 exact⟨rfl,H1.out,H2.out⟩
end Go.Proofs.YtndcnflchkfaeaaDoor

namespace Go.Proofs.YtndcnflchkfaeaaDoor
open Go.RowKit
set_option linter.unusedVariables false
theorem Blk.four {w:World}{g:Nat}{t:TypeId}{a b c d:Value}(h:Blk w g t #[a,b,c,d]):w.cell? ⟨g,0,none⟩=some a∧w.cell? ⟨g,1,none⟩=some b∧w.cell? ⟨g,2,none⟩=some c∧w.cell? ⟨g,3,none⟩=some d∧w.frozen? ⟨g,0,none⟩=false∧w.frozen? ⟨g,1,none⟩=false∧w.frozen? ⟨g,2,none⟩=false∧w.frozen? ⟨g,3,none⟩=false:=
 ⟨h.cell 0,h.cell 1,h.cell 2,h.cell 3,h.frozen 0,h.frozen 1,h.frozen 2,h.frozen 3⟩
theorem get_next {xs:List Int}{k n:Nat}(h:k<n)(hl:(xs.take k).length=k):(ivs (xs.take k++List.replicate (n-k) 0))[k]? =some (.int .i64 0):=by
 simp only[ivs,List.map_append]
 rw[List.getElem?_append_right (by rw[List.length_map,hl];exact Nat.le_refl _),List.length_map,hl,Nat.sub_self]
 rw[show n-k=(n-(k+1))+1 by omega,List.replicate_succ];rfl
theorem set_next {xs:List Int}{k n:Nat}{x:Int}(h:k<n)(hx:xs[k]? =some x) (hl:(xs.take k).length=k):(ivs (xs.take k++List.replicate (n-k) 0)).set k (.int .i64 x)=ivs (xs.take (k+1)++List.replicate (n-(k+1)) 0):=by
 rw[take_snocL hx]
 rw[show n-k=(n-(k+1))+1 by omega,List.replicate_succ]
 simp only[ivs,List.map_append,List.map_cons]
 rw[List.set_append_right _ _ (by rw[List.length_map,hl];exact Nat.le_refl _)]
 simp only[List.length_map,hl,Nat.sub_self,List.set_cons_zero]
 simp[iv]
end Go.Proofs.YtndcnflchkfaeaaDoor

namespace Go.Proofs.YtndcnflchkfaeaaDoor
open Go.RowKit
set_option linter.unusedVariables false
set_option linter.unusedSimpArgs false
def RetBooks (vs:List Visit4)(w:World)(e:Ending)(w':World):Prop:=
 ∃p cap,e= .returned (.slice p vs.length cap)∧w'.ownsRow w.heap.size TBk 4 (.slice p vs.length cap) vs.length (vs.flatMap visitCells)∧Ext w w'
theorem ret_books {p:Option Addr}{n cap:Nat}{vs:List Visit4}{w w':World}(hn:vs.length=n)(ho:w'.ownsRow w.heap.size TBk 4 (.slice p n cap) n (vs.flatMap visitCells))(hx:Ext w w'):RetBooks vs w (.returned (.slice p n cap)) w':=by
 subst hn;exact⟨p,cap,rfl,ho,hx⟩
theorem gset {W0 wr:World}{B:Nat}(hg:W0.grownBy wr (some B))(o:Nat)(v:Value):W0.grownBy (wr.setCell ⟨B,o,none⟩ v) (some B):=
 ⟨hg.os,hg.tape,hg.output,by simpa using hg.size,fun k hk hne=>by
  rw[Below.heap_setCell _ _ _ _ (fun e=>hne (by simp[e]))];exact hg.block k hk hne⟩
end Go.Proofs.YtndcnflchkfaeaaDoor

