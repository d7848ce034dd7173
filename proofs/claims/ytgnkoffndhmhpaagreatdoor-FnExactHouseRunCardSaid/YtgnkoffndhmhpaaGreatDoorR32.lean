/-
  Texts of this proof, packed (@packed).
-/
import Derived.Deep.CutBlock
import Derived.Test.YtgnkoffndhmhpaaGreatDoorR8
import Derived.Test.YtgnkoffndhmhpaaGreatDoorR10
import Derived.Test.YtgnkoffndhmhpaaGreatDoorR11
import Derived.Test.YtgnkoffndhmhpaaGreatDoorR31
namespace Go.Proofs.YtgnkoffndhmhpaaGreatDoor
open Go.RowKit
set_option linter.unusedVariables false
set_option linter.unusedSimpArgs false
set_option maxHeartbeats 8000000
set_option maxRecDepth 100000
theorem aGj (aA aB:Int)(pb po:Nat)(n cap:Nat)(xs:List Int)(b off m c2 u:Nat)(ws0 ws:List Nat)(w:World)(hn0:4≤n)(hn:n≤12)(hm0:0<m)(hm:m≤12)(HWS:Hid (ws=u::ws0))(hwl:Hid (ws.length=m))(hb:b<w.heap.size)(hpb:pb<w.heap.size)
  (hok:Hid (aP aA aB xs=true))(hlen:Hid (xs.length=n))(hu:u<n)(hu0:Hid (xs.getD u 0=0))(hst:Hid (kU aA n u ws0))
  (HS:Hid (∀(k x:Nat),ws[k]? =some x→w.cell? ⟨b,off+k,none⟩=some (.int .i64 (x:Int)))) (cu0:w.cell? ⟨b,off,none⟩=some (.int .i64 (u:Int))) (cp0:w.cell? ⟨pb,po+u,none⟩=some (.int .i64 0))
  (HV:xB 80 #[aI aA aB (some ⟨pb,po,none⟩) n cap] w true)
  (HH:Hid (∀w',Calls Tryz.prog 152 #[aI aA aB (some ⟨pb,po,none⟩) n cap,(u:Int)] w' fun e w''=>e= .returned (.bool true)∧Ext w' w''))
  (HCA:Hid (∀(k x y:Nat),1≤k→ws[k-1]? =some x→ws[k]? =some y→ ∀w',Ext w w'→Calls Tryz.prog 196 #[aI aA aB (some ⟨pb,po,none⟩) n cap,(x:Int),(y:Int)] w' fun e w''=>e= .returned (.int .i64 1)∧Ext w' w''))
  (HK:Hid (∀w',Ext w w'→Calls Tryz.prog 105 #[aI aA aB (some ⟨pb,po,none⟩) n cap] w' (dF aA aB xs w'))):
  Calls Tryz.prog 176 #[aI aA aB (some ⟨pb,po,none⟩) n cap,.slice (some ⟨b,off,none⟩) m c2] w (fR (bW xs u ws0).2 w):=by
 have j1:(0:Int)≤(u:Int):=by omega
 have j2:(u:Int)<(n:Int):=by omega
 have j3:(0:Int)<(m:Int):=by omega
 have j4:((m:Int)==0)=false:=by first|(simp;done)|(simp;omega)
 go_enter Tryz.func176,Tryz.ntmps176
 have ME:=xQ ((Mem.start w).blkNew TH3 #[aA,aB,.slice (some ⟨pb,po,none⟩) n cap] w.heap.size rfl)
 go_wp2
 refine cS (gl [gEq (.agg #[aA,aB,.slice (some ⟨pb,po,none⟩) n cap]),gEq (.bool true),gEq (.bool false),gEq (.bool false),gEq (.slice (some ⟨b,off,none⟩) m c2),gEq (m:Int),gEq (.bool false),gEq (.bool false),gEq (.bool false),gEq (.agg #[aA,aB,.slice (some ⟨pb,po,none⟩) n cap]),gEq (.slice (some ⟨b,off,none⟩) m c2),gEq (.pointer (some ⟨b,off,none⟩)),gEq (u:Int),gEq (.bool true),gEq (.bool false),gEq (.bool false),gEq (.bool false),gEq (.pointer (some ⟨w.heap.size,2,none⟩)),gEq (.slice (some ⟨pb,po,none⟩) n cap),gEq (.slice (some ⟨b,off,none⟩) m c2),gEq (.pointer (some ⟨b,off,none⟩)),gEq (u:Int),gEq (.pointer (some ⟨pb,po+u,none⟩)),gEq (.int .i64 0),gEq (.bool false),gEq (.bool false)]) 26 (by kernel_rfl) rfl (by kernel_rfl) (by kernel_rfl) (by kernel_rfl) (eG (aK (aH _) (aK (aH _) (aK (aH _) (aK (aH _) (aK (aH _) (aK (aH _) (aK (aH _) (aK (aH _) (aK (aH _) (aK (aH _) (aK (aH _) (aK (aH _) (aK (aH _) (aK (aH _) (aK (aH _) (aK (aH _) (aK (aH _) (aK (aH _) (aK (aH _) (aK (aH _) (aK (aH _) (aK (aH _) (aK (aH _) (aK (aH _) (aK (aH _) (aK (aH _) (fK)))))))))))))))))))))))))))) (k:=26) (by kernel_rfl) (by decide) (ls:= [(0,some 9),(1,some 10),(2,some 11),(3,some 12),(4,some 13),(5,some 14),(6,some 15),(7,some 16),(8,some 17),(9,some 18),(10,some 19),(11,some 20),(12,some 21),(13,some 22),(14,some 23),(15,some 24),(16,some 25),(17,some 26),(18,some 27),(19,some 28),(20,some 29),(21,some 30),(22,some 31),(23,some 32),(24,some 33),(25,some 34)]) (by kernel_rfl) (ir:= [0,1,2,3,4,5,6,7,8,9,10,11,12,13,14,15,16,17,18,19,20,21,22,23,24,25]) (by kernel_rfl) ?steps (tl:=#[true,true,true,true,true,true,true,true,true,true,true,true,true,true,true,true,true,true,true,true,true,true,true,true,true,true]) (by kernel_rfl) ?fin
 case steps=>
  refine sC [] rfl (fun wi hx=> ?_) ?_
  ·intro K hK
   have hX:Ext (w.alloc (.cells #[aA,aB,.slice (some ⟨pb,po,none⟩) n cap] TH3)) wi:=xE
   obtain⟨cl0,cl1,cl2⟩:=(((ME.out.blk (i:=0) rfl).ext hX)).tri
   go_simp
   exact hK _ _ ⟨.agg #[aA,aB,.slice (some ⟨pb,po,none⟩) n cap],rfl,rfl,Ext.refl _⟩
  refine sC [(0,some 9)] rfl (fun wi hx=> ?_) ?_
  ·intro v0 h0 K hK
   obtain rfl:=h0
   have hX:Ext w wi:=xE
   go_wp2_with fail
   refine(HV.out _ hX).mono ?_
   rintro e w5 ⟨rfl,hx5⟩
   go_simp
   exact hK _ _ ⟨.bool true,rfl,rfl,hx5⟩
  refine sC [(1,some 10)] rfl (fun wi hx=> ?_) ?_
  ·intro v1 h1 K hK
   obtain rfl:=h1
   go_simp
   exact hK _ _ ⟨.bool false,rfl,rfl,Ext.refl _⟩
  refine sC [(2,some 11)] rfl (fun wi hx=> ?_) ?_
  ·intro v2 h2 K hK
   obtain rfl:=h2
   go_simp
   exact hK _ _ ⟨.bool false,rfl,rfl,Ext.refl _⟩
  refine sC [(3,some 12)] rfl (fun wi hx=> ?_) ?_
  ·intro v3 h3 K hK
   obtain rfl:=h3
   go_simp
   exact hK _ _ ⟨.slice (some ⟨b,off,none⟩) m c2,rfl,rfl,Ext.refl _⟩
  refine sC [(3,some 12),(4,some 13)] rfl (fun wi hx=> ?_) ?_
  ·intro v3 h3 v4 h4 K hK
   obtain rfl:=h3
   obtain rfl:=h4
   go_simp
   exact hK _ _ ⟨.int .i64 (m:Int),rfl,rfl,Ext.refl _⟩
  refine sC [(3,some 12),(5,some 14)] rfl (fun wi hx=> ?_) ?_
  ·intro v3 h3 v5 h5 K hK
   obtain rfl:=h3
   obtain rfl:=h5
   go_simp
   exact hK _ _ ⟨.bool false,rfl,rfl,Ext.refl _⟩
  refine sC [(3,some 12),(6,some 15)] rfl (fun wi hx=> ?_) ?_
  ·intro v3 h3 v6 h6 K hK
   obtain rfl:=h3
   obtain rfl:=h6
   go_simp
   exact hK _ _ ⟨.bool false,rfl,rfl,Ext.refl _⟩
  refine sC [(7,some 16)] rfl (fun wi hx=> ?_) ?_
  ·intro v7 h7 K hK
   obtain rfl:=h7
   go_simp
   exact hK _ _ ⟨.bool false,rfl,rfl,Ext.refl _⟩
  refine sC [(8,some 17)] rfl (fun wi hx=> ?_) ?_
  ·intro v8 h8 K hK
   obtain rfl:=h8
   have hX:Ext (w.alloc (.cells #[aA,aB,.slice (some ⟨pb,po,none⟩) n cap] TH3)) wi:=xE
   obtain⟨cl0,cl1,cl2⟩:=(((ME.out.blk (i:=0) rfl).ext hX)).tri
   go_simp
   exact hK _ _ ⟨.agg #[aA,aB,.slice (some ⟨pb,po,none⟩) n cap],rfl,rfl,Ext.refl _⟩
  refine sC [(8,some 17)] rfl (fun wi hx=> ?_) ?_
  ·intro v8 h8 K hK
   obtain rfl:=h8
   go_simp
   exact hK _ _ ⟨.slice (some ⟨b,off,none⟩) m c2,rfl,rfl,Ext.refl _⟩
  refine sC [(8,some 17),(10,some 19)] rfl (fun wi hx=> ?_) ?_
  ·intro v8 h8 v10 h10 K hK
   obtain rfl:=h8
   obtain rfl:=h10
   go_simp
   exact hK _ _ ⟨.pointer (some ⟨b,off,none⟩),rfl,rfl,Ext.refl _⟩
  refine sC [(8,some 17),(11,some 20)] rfl (fun wi hx=> ?_) ?_
  ·intro v8 h8 v11 h11 K hK
   obtain rfl:=h8
   obtain rfl:=h11
   have hX:Ext (w.alloc (.cells #[aA,aB,.slice (some ⟨pb,po,none⟩) n cap] TH3)) wi:=xE
   have cl0:wi.cell? ⟨b,off,none⟩=some (.int .i64 (u:Int)):=(ME.out.ext.trans hX).cells.1 _ _ hb |>.trans cu0
   go_simp
   exact hK _ _ ⟨.int .i64 (u:Int),rfl,rfl,Ext.refl _⟩
  refine sC [(8,some 17),(9,some 18),(12,some 21)] rfl (fun wi hx=> ?_) ?_
  ·intro v8 h8 v9 h9 v12 h12 K hK
   obtain rfl:=h8
   obtain rfl:=h9
   obtain rfl:=h12
   have hX:Ext w wi:=xE
   go_wp2_with fail
   refine(HH.out _).mono ?_
   rintro e w5 ⟨rfl,hx5⟩
   go_simp
   exact hK _ _ ⟨.bool true,rfl,rfl,hx5⟩
  refine sC [(8,some 17),(13,some 22)] rfl (fun wi hx=> ?_) ?_
  ·intro v8 h8 v13 h13 K hK
   obtain rfl:=h8
   obtain rfl:=h13
   go_simp
   exact hK _ _ ⟨.bool false,rfl,rfl,Ext.refl _⟩
  refine sC [(8,some 17),(14,some 23)] rfl (fun wi hx=> ?_) ?_
  ·intro v8 h8 v14 h14 K hK
   obtain rfl:=h8
   obtain rfl:=h14
   go_simp
   exact hK _ _ ⟨.bool false,rfl,rfl,Ext.refl _⟩
  refine sC [(15,some 24)] rfl (fun wi hx=> ?_) ?_
  ·intro v15 h15 K hK
   obtain rfl:=h15
   go_simp
   exact hK _ _ ⟨.bool false,rfl,rfl,Ext.refl _⟩
  refine sC [(16,some 25)] rfl (fun wi hx=> ?_) ?_
  ·intro v16 h16 K hK
   obtain rfl:=h16
   go_simp
   exact hK _ _ ⟨.pointer (some ⟨w.heap.size,2,none⟩),rfl,rfl,Ext.refl _⟩
  refine sC [(16,some 25),(17,some 26)] rfl (fun wi hx=> ?_) ?_
  ·intro v16 h16 v17 h17 K hK
   obtain rfl:=h16
   obtain rfl:=h17
   have hX:Ext (w.alloc (.cells #[aA,aB,.slice (some ⟨pb,po,none⟩) n cap] TH3)) wi:=xE
   have cl0:wi.cell? ⟨w.heap.size,2,none⟩=some (.slice (some ⟨pb,po,none⟩) n cap):=((ME.out.blk (i:=0) rfl).ext hX).cell 2
   go_simp
   exact hK _ _ ⟨.slice (some ⟨pb,po,none⟩) n cap,rfl,rfl,Ext.refl _⟩
  refine sC [(16,some 25)] rfl (fun wi hx=> ?_) ?_
  ·intro v16 h16 K hK
   obtain rfl:=h16
   go_simp
   exact hK _ _ ⟨.slice (some ⟨b,off,none⟩) m c2,rfl,rfl,Ext.refl _⟩
  refine sC [(16,some 25),(19,some 28)] rfl (fun wi hx=> ?_) ?_
  ·intro v16 h16 v19 h19 K hK
   obtain rfl:=h16
   obtain rfl:=h19
   go_simp
   exact hK _ _ ⟨.pointer (some ⟨b,off,none⟩),rfl,rfl,Ext.refl _⟩
  refine sC [(16,some 25),(20,some 29)] rfl (fun wi hx=> ?_) ?_
  ·intro v16 h16 v20 h20 K hK
   obtain rfl:=h16
   obtain rfl:=h20
   have hX:Ext (w.alloc (.cells #[aA,aB,.slice (some ⟨pb,po,none⟩) n cap] TH3)) wi:=xE
   have cl0:wi.cell? ⟨b,off,none⟩=some (.int .i64 (u:Int)):=(ME.out.ext.trans hX).cells.1 _ _ hb |>.trans cu0
   go_simp
   exact hK _ _ ⟨.int .i64 (u:Int),rfl,rfl,Ext.refl _⟩
  refine sC [(16,some 25),(18,some 27),(21,some 30)] rfl (fun wi hx=> ?_) ?_
  ·intro v16 h16 v18 h18 v21 h21 K hK
   obtain rfl:=h16
   obtain rfl:=h18
   obtain rfl:=h21
   go_simp
   exact hK _ _ ⟨.pointer (some ⟨pb,po+u,none⟩),rfl,rfl,Ext.refl _⟩
  refine sC [(16,some 25),(22,some 31)] rfl (fun wi hx=> ?_) ?_
  ·intro v16 h16 v22 h22 K hK
   obtain rfl:=h16
   obtain rfl:=h22
   have hX:Ext (w.alloc (.cells #[aA,aB,.slice (some ⟨pb,po,none⟩) n cap] TH3)) wi:=xE
   have cl0:wi.cell? ⟨pb,po+u,none⟩=some (.int .i64 0):=(ME.out.ext.trans hX).cells.1 _ _ hpb |>.trans cp0
   go_simp
   exact hK _ _ ⟨.int .i64 0,rfl,rfl,Ext.refl _⟩
  refine sC [(16,some 25),(23,some 32)] rfl (fun wi hx=> ?_) ?_
  ·intro v16 h16 v23 h23 K hK
   obtain rfl:=h16
   obtain rfl:=h23
   go_simp
   exact hK _ _ ⟨.bool false,rfl,rfl,Ext.refl _⟩
  refine sC [(16,some 25),(24,some 33)] rfl (fun wi hx=> ?_) StepsL.nil
  ·intro v16 h16 v24 h24 K hK
   obtain rfl:=h16
   obtain rfl:=h24
   go_simp
   exact hK _ _ ⟨.bool false,rfl,rfl,Ext.refl _⟩
 case fin=>
  intro wi hx v0 h0 v1 h1 v2 h2 v3 h3 v4 h4 v5 h5 v6 h6 v7 h7 v8 h8 v9 h9 v10 h10 v11 h11 v12 h12 v13 h13 v14 h14 v15 h15 v16 h16 v17 h17 v18 h18 v19 h19 v20 h20 v21 h21 v22 h22 v23 h23 v24 h24 v25 h25
  obtain rfl:=h0
  obtain rfl:=h1
  obtain rfl:=h2
  obtain rfl:=h3
  obtain rfl:=h4
  obtain rfl:=h5
  obtain rfl:=h6
  obtain rfl:=h7
  obtain rfl:=h8
  obtain rfl:=h9
  obtain rfl:=h10
  obtain rfl:=h11
  obtain rfl:=h12
  obtain rfl:=h13
  obtain rfl:=h14
  obtain rfl:=h15
  obtain rfl:=h16
  obtain rfl:=h17
  obtain rfl:=h18
  obtain rfl:=h19
  obtain rfl:=h20
  obtain rfl:=h21
  obtain rfl:=h22
  obtain rfl:=h23
  obtain rfl:=h24
  obtain rfl:=h25
  have hX:Ext (w.alloc (.cells #[aA,aB,.slice (some ⟨pb,po,none⟩) n cap] TH3)) wi:=hx.of_drew
  have M1:=xQ (ME.out.adv hX)
  clear ME hX hx
  refine wpAny_done (by kernel_rfl) ?_ _
  try simp only[Act.put,List.setIfInBounds_toArray,List.set_cons_zero,List.set_cons_succ]
  go_wp2
  go_loopw [5] (fun i wr=> ∃(k:Nat),1≤k∧k≤m∧i= .int .i64 (k:Int)∧Mem w wr [aL w.heap.size (w.heap.size) TH3 #[aA,aB,.slice (some ⟨pb,po,none⟩) n cap]]) (fun i _=>m-(intOf i).toNat)
  case atStart=>exact⟨1,Nat.le_refl _,by omega,rfl,M1.out⟩
  case round=>
   clear M1
   obtain⟨k,hk1,hk,rfl,hM⟩:=hrel
   have HM:=xQ hM
   clear hM
   by_cases hlt:k<m
   ·obtain⟨x,hx⟩: ∃x,ws[k-1]? =some x:=⟨_,List.getElem?_eq_getElem (by rw[hwl.out];omega)⟩
    obtain⟨y,hy⟩: ∃y,ws[k]? =some y:=⟨_,List.getElem?_eq_getElem (by rw[hwl.out];omega)⟩
    have ca:wr.cell? ⟨b,off+(k-1),none⟩=some (.int .i64 (x:Int)):=(HM.out.ext.cells.1 _ _ hb).trans (HS.out (k-1) x hx)
    have cb:wr.cell? ⟨b,off+k,none⟩=some (.int .i64 (y:Int)):=(HM.out.ext.cells.1 _ _ hb).trans (HS.out k y hy)
    have hb':b<wr.heap.size:=Nat.lt_of_lt_of_le hb HM.out.ext.sz
    have HCX:=xQ (HCA.out k x y hk1 hx hy)
    clear hx hy
    have i1:(0:Int)≤(k:Int):=by omega
    have i2:(k:Int)<(m:Int):=by omega
    have i3:(k:Int)-1<(m:Int):=by omega
    have i4:((k:Int)-1).toNat=k-1:=by omega
    have i5:(1:Int)≤(k:Int):=by omega
    go_wp2
    refine cS (gl [gEq (.agg #[aA,aB,.slice (some ⟨pb,po,none⟩) n cap]),gEq (.slice (some ⟨b,off,none⟩) m c2),gEq (k:Int),gEq ((k:Int)-1:Int),gEq (.pointer (some ⟨b,off+(k-1),none⟩)),gEq (x:Int),gEq (.slice (some ⟨b,off,none⟩) m c2),gEq (k:Int),gEq (.pointer (some ⟨b,off+k,none⟩)),gEq (y:Int),gEq (.int .i64 1),gEq (.bool false)]) 12 (by kernel_rfl) rfl (by kernel_rfl) (by kernel_rfl) (by kernel_rfl) (eG (aK (aH _) (aK (aH _) (aK (aH _) (aK (aH _) (aK (aH _) (aK (aH _) (aK (aH _) (aK (aH _) (aK (aH _) (aK (aH _) (aK (aH _) (aK (aH _) (fK)))))))))))))) (k:=12) (by kernel_rfl) (by decide) (ls:= [(0,some 41),(1,some 42),(2,some 43),(3,some 44),(4,some 45),(5,some 46),(6,some 47),(7,some 48),(8,some 49),(9,some 50),(10,some 51),(11,some 52)]) (by kernel_rfl) (ir:= [0,1,2,3,4,5,6,7,8,9,10,11]) (by kernel_rfl) ?steps (tl:=#[true,true,true,true,true,true,true,true,true,true,true,true]) (by kernel_rfl) ?fin
    case steps=>
     refine sC [] rfl (fun wi hx=> ?_) ?_
     ·intro K hK
      have hX:Ext wr wi:=xE
      obtain⟨cl0,cl1,cl2⟩:=(((HM.out.blk (i:=0) rfl).ext hX)).tri
      go_simp
      exact hK _ _ ⟨.agg #[aA,aB,.slice (some ⟨pb,po,none⟩) n cap],rfl,rfl,Ext.refl _⟩
     refine sC [] rfl (fun wi hx=> ?_) ?_
     ·intro K hK
      go_simp
      exact hK _ _ ⟨.slice (some ⟨b,off,none⟩) m c2,rfl,rfl,Ext.refl _⟩
     refine sC [] rfl (fun wi hx=> ?_) ?_
     ·intro K hK
      go_simp
      exact hK _ _ ⟨.int .i64 (k:Int),rfl,rfl,Ext.refl _⟩
     refine sC [(2,some 43)] rfl (fun wi hx=> ?_) ?_
     ·intro v2 h2 K hK
      obtain rfl:=h2
      have hwr:IntKind.i64.wrap ((k:Int)-1)=(k:Int)-1:=IntWalk.i64_in _ (by omega)
      go_simp
      exact hK _ _ ⟨.int .i64 ((k:Int)-1),rfl,rfl,Ext.refl _⟩
     refine sC [(1,some 42),(3,some 44)] rfl (fun wi hx=> ?_) ?_
     ·intro v1 h1 v3 h3 K hK
      obtain rfl:=h1
      obtain rfl:=h3
      go_simp
      exact hK _ _ ⟨.pointer (some ⟨b,off+(k-1),none⟩),rfl,rfl,Ext.refl _⟩
     refine sC [(4,some 45)] rfl (fun wi hx=> ?_) ?_
     ·intro v4 h4 K hK
      obtain rfl:=h4
      have hX:Ext wr wi:=xE
      have cl0:wi.cell? ⟨b,off+(k-1),none⟩=some (.int .i64 (x:Int)):=(hX.cells.1 _ _ hb').trans ca
      go_simp
      exact hK _ _ ⟨.int .i64 (x:Int),rfl,rfl,Ext.refl _⟩
     refine sC [] rfl (fun wi hx=> ?_) ?_
     ·intro K hK
      go_simp
      exact hK _ _ ⟨.slice (some ⟨b,off,none⟩) m c2,rfl,rfl,Ext.refl _⟩
     refine sC [] rfl (fun wi hx=> ?_) ?_
     ·intro K hK
      go_simp
      exact hK _ _ ⟨.int .i64 (k:Int),rfl,rfl,Ext.refl _⟩
     refine sC [(6,some 47),(7,some 48)] rfl (fun wi hx=> ?_) ?_
     ·intro v6 h6 v7 h7 K hK
      obtain rfl:=h6
      obtain rfl:=h7
      go_simp
      exact hK _ _ ⟨.pointer (some ⟨b,off+k,none⟩),rfl,rfl,Ext.refl _⟩
     refine sC [(8,some 49)] rfl (fun wi hx=> ?_) ?_
     ·intro v8 h8 K hK
      obtain rfl:=h8
      have hX:Ext wr wi:=xE
      have cl0:wi.cell? ⟨b,off+k,none⟩=some (.int .i64 (y:Int)):=(hX.cells.1 _ _ hb').trans cb
      go_simp
      exact hK _ _ ⟨.int .i64 (y:Int),rfl,rfl,Ext.refl _⟩
     refine sC [(0,some 41),(5,some 46),(9,some 50)] rfl (fun wi hx=> ?_) ?_
     ·intro v0 h0 v5 h5 v9 h9 K hK
      obtain rfl:=h0
      obtain rfl:=h5
      obtain rfl:=h9
      have hX:Ext wr wi:=xE
      go_wp2_with fail
      refine(HCX.out _ (HM.out.ext.trans hX)).mono ?_
      rintro e w5 ⟨rfl,hx5⟩
      go_simp
      exact hK _ _ ⟨.int .i64 1,rfl,rfl,hx5⟩
     refine sC [(10,some 51)] rfl (fun wi hx=> ?_) StepsL.nil
     ·intro v10 h10 K hK
      obtain rfl:=h10
      go_simp
      exact hK _ _ ⟨.bool false,rfl,rfl,Ext.refl _⟩
    case fin=>
     intro wi hx v0 h0 v1 h1 v2 h2 v3 h3 v4 h4 v5 h5 v6 h6 v7 h7 v8 h8 v9 h9 v10 h10 v11 h11
     obtain rfl:=h0
     obtain rfl:=h1
     obtain rfl:=h2
     obtain rfl:=h3
     obtain rfl:=h4
     obtain rfl:=h5
     obtain rfl:=h6
     obtain rfl:=h7
     obtain rfl:=h8
     obtain rfl:=h9
     obtain rfl:=h10
     obtain rfl:=h11
     have hX:Ext wr wi:=hx.of_drew
     have M2:=xQ (HM.out.adv hX)
     clear HM hX hx ca cb HCX
     refine wpAny_done (by kernel_rfl) ?_ _
     try simp only[Act.put,List.setIfInBounds_toArray,List.set_cons_zero,List.set_cons_succ]
     go_wp2
     go_roundw
     case rel=>exact⟨k+1,by omega,by omega,by go_num,M2.out⟩
     case measure=>simp[intOf];omega
   ·obtain rfl:m=k:=by omega
    have b0:=(HM.out.blk (i:=0) rfl).tri
    obtain⟨h0,h1,h2⟩:=b0
    have lt0:=(HM.out.lt (i:=0) rfl rfl).2
    go_wp2_with fail
    clear h0 h1 h2 lt0
    refine(HK.out _ HM.out.ext).mono ?_
    rintro e w2 ⟨q0,c0,rfl,o2,hx2⟩
    rw[hlen.out]at o2⊢
    have M2:=xQ (HM.out.call hx2 o2)
    clear o2 hx2 HM
    obtain⟨g,rfl,hg1,hg2⟩:=M2.out.some (i:=0) rfl (by omega)
    clear hg1 hg2
    have M3:=xQ (M2.out.blkNew TH3 #[aA,aB,.slice (some ⟨g,0,none⟩) n c0] w2.heap.size rfl)
    have M4:=xQ (show Mem w _ [aJ w.heap.size TI 1 (some ⟨g,0,none⟩) (n) (c0) (ivs (xs)),aJ w.heap.size TSL 2 (none) (0) (0) (([]).flatMap aM),aL w.heap.size (w2.heap.size) TH3 #[aA,aB,.slice (some ⟨g,0,none⟩) n c0],aL w.heap.size (w.heap.size) TH3 #[aA,aB,.slice (some ⟨pb,po,none⟩) n cap]]from(M3.out.ownNew (Ext.refl _) (World.ownsRow_nil _ _ TSL 2) (Nat.le_refl _)).pick [2,0,1,3] (by decide) rfl)
    clear M2 M3
    obtain⟨gV,hgV⟩: ∃gV,gV=w2.heap.size:=⟨_,rfl⟩
    rw[←hgV]at M4
    go_wp2
    rw[←hgV]
    have HGV:=xQ hgV
    clear hgV
    go_loopw [6,8] (fun v i wr=> ∃(k x:Nat) (rest:List Nat) (ys:List Int) (q5:OA) (l lc:Nat) (sl:List Sl2),1≤k∧k≤m∧i= .int .i64 (k:Int)∧v= .slice q5 l lc∧l=sl.length∧l≤k∧ws.drop (k-1)=x::rest∧aP aA aB ys=true∧ys.length=n∧x<n∧ys.getD x 0=0∧kU aA n x rest∧sl++(bW ys x rest).2=(bW xs u ws0).2∧Mem w wr [aJ w.heap.size TI 1 (some ⟨g,0,none⟩) (n) (c0) (ivs (ys)),aJ w.heap.size TSL 2 (q5) (l) (lc) ((sl).flatMap aM),aL w.heap.size (gV) TH3 #[aA,aB,.slice (some ⟨g,0,none⟩) n c0],aL w.heap.size (w.heap.size) TH3 #[aA,aB,.slice (some ⟨pb,po,none⟩) n cap]]) (fun _ i _=>m-(intOf i).toNat)
    case atStart=>exact⟨1,u,ws0,xs,none,0,0,[],Nat.le_refl _,by omega,rfl,rfl,rfl,by omega,by rw[HWS.out];rfl,hok.out,hlen.out,hu,hu0.out,hst.out,rfl,M4.out⟩
    case round=>
     clear M4
     obtain⟨k,x,rest,ys,q5,l,lc,sl,hk1,hk,rfl,rfl,hl,hlk,hdr,hoky,hly,hxn,hx0,hsto,hres,hM⟩:=hrel
     have HDR:=xQ hdr
     have HOKY:=xQ hoky
     have HLY:=xQ hly
     have HX0:=xQ hx0
     have HSTO:=xQ hsto
     have HRES:=xQ hres
     have HSL:=xQ hl
     have HM:=xQ hM
     clear hdr hoky hly hx0 hsto hres hM hl
     by_cases hlt:k<m
     ·obtain⟨y,rest',hrest⟩: ∃y rest',rest=y::rest':=by
       have h1:=congrArg List.length HDR.out
       rw[List.length_drop,hwl.out]at h1
       cases rest with
       |nil=>simp at h1;omega
       |cons y r=>exact⟨y,r,rfl⟩
      subst hrest
      have hyx:ws[k-1]? =some x:=by have:=congrArg (fun z=>z[0]?) HDR.out;simpa using this
      have hdr2:ws.drop k=y::rest':=by
       have:=congrArg List.tail HDR.out
       rw[List.tail_drop,show k-1+1=k by omega]at this
       exact this
      have hyy:ws[k]? =some y:=by have:=congrArg (fun z=>z[0]?) hdr2;simpa using this
      have HDR2:=xQ hdr2
      have hby:y∈aS aA n x:=HSTO.out.1
      have hyn:y<n:=(bM.1 hby).1
      have hap1:aZ aA (x:Int) (y:Int)=1:=(bM.1 hby).2
      have hxy: ¬(x=y):=by
       intro e;subst e
       have:aZ aA (x:Int) (x:Int)=0:=by unfold aZ mW;simp
       omega
      have HBY:=xQ hby
      have ca:wr.cell? ⟨b,off+(k-1),none⟩=some (.int .i64 (x:Int)):=(HM.out.ext.cells.1 _ _ hb).trans (HS.out (k-1) x hyx)
      have cb:wr.cell? ⟨b,off+k,none⟩=some (.int .i64 (y:Int)):=(HM.out.ext.cells.1 _ _ hb).trans (HS.out k y hyy)
      have hb':b<wr.heap.size:=Nat.lt_of_lt_of_le hb HM.out.ext.sz
      have HYX:=xQ hyx
      have HYY:=xQ hyy
      clear hdr2 hby hyx hyy hap1
      obtain⟨z,hz⟩: ∃z,z=ys.getD y 0:=⟨_,rfl⟩
      have HZ:=xQ hz
      have cy:wr.cell? ⟨g,y,none⟩=some (.int .i64 z):=by
       have h1:=(cW (D:=ys) (v:=y) (by rw[HLY.out];exact hyn)).1
       rw[←hz]at h1
       have:=(HM.out.own (i:=0) rfl).cellAt y (by omega);rw[this];simp only[ivs,List.getElem?_map,h1,Option.map_some]
      clear hz
      have v2:wr.cell? ⟨gV,2,none⟩=some (.slice (some ⟨g,0,none⟩) n c0):=(HM.out.blk (i:=2) rfl).cell 2
      have ltV:=(HM.out.lt (i:=2) rfl rfl).2
      have i1:(0:Int)≤(k:Int):=by omega
      have i2:(k:Int)<(m:Int):=by omega
      have i3:(k:Int)-1<(m:Int):=by omega
      have i4:((k:Int)-1).toNat=k-1:=by omega
      have i5:(1:Int)≤(k:Int):=by omega
      have i6:(0:Int)≤(y:Int):=by omega
      have i7:(y:Int)<(n:Int):=by omega
      have i8:(0:Int)≤(x:Int):=by omega
      have i9:(x:Int)<(n:Int):=by omega
      have i10:(0:Int)≤(k:Int)-1:=by omega
      have i11:IntKind.i64.wrap ((k:Int)-1)=(k:Int)-1:=IntWalk.i64_in _ (by omega)
      go_upto_block 3 with fail
      go_cut [6,8]from 61 to 105 (fun s6 s8 wx=> ∃(ys':List Int) (q':OA) (l' lc':Nat) (sl':List Sl2),s6= .slice q' l' lc'∧s8= .int .i64 (k:Int)∧l'=sl'.length∧l'≤k+1∧aP aA aB ys'=true∧ys'.length=n∧ys'.getD y 0=0∧sl'++(bW ys' y rest').2=(bW xs u ws0).2∧Mem w wx [aJ w.heap.size TI 1 (some ⟨g,0,none⟩) (n) (c0) (ivs (ys')),aJ w.heap.size TSL 2 (q') (l') (lc') ((sl').flatMap aM),aL w.heap.size (gV) TH3 #[aA,aB,.slice (some ⟨g,0,none⟩) n c0],aL w.heap.size (w.heap.size) TH3 #[aA,aB,.slice (some ⟨pb,po,none⟩) n cap]])
      case first=>
       go_wp2
       go_quiet (fail)
       generalize hwq:World.drewN _ _=wq
       have MQ:=xQ (show Mem w wq [aJ w.heap.size TI 1 (some ⟨g,0,none⟩) (n) (c0) (ivs (ys)),aJ w.heap.size TSL 2 (q5) (l) (lc) ((sl).flatMap aM),aL w.heap.size (gV) TH3 #[aA,aB,.slice (some ⟨g,0,none⟩) n c0],aL w.heap.size (w.heap.size) TH3 #[aA,aB,.slice (some ⟨pb,po,none⟩) n cap]]from by rw[←hwq];exact HM.out.adv xE)
       have cax:wq.cell? ⟨b,off+(k-1),none⟩=some (.int .i64 (x:Int)):=by rw[←hwq];simpa using ca
       have cbx:wq.cell? ⟨b,off+k,none⟩=some (.int .i64 (y:Int)):=by rw[←hwq];simpa using cb
       have hb2:b<wq.heap.size:=by rw[←hwq];simpa using hb'
       clear hwq HM ca cb cy v2 ltV hb'
       by_cases hz0:z=0
       ·have t0:(z !=0)=false:=by simp[hz0]
        have HY0:=xQ (show ys.getD y 0=0 by rw[←HZ.out];exact hz0)
        have hr:=xQ (nO (a:=x) (l:=rest') HY0.out)
        clear hz0
        go_wp2_with fail
        go_meet
        case rel=>exact⟨ys,q5,l,lc,sl,rfl,rfl,HSL.out,by omega,HOKY.out,HLY.out,HY0.out,by rw[←HRES.out,hr.out],MQ.out⟩
       ·have t0:(z !=0)=true:=by simp[hz0]
        have hz1: ¬ys.getD y 0=0:=by rw[←HZ.out];exact hz0
        obtain⟨n1,n2,n3⟩:=pM HOKY.out (by rw[HLY.out];exact hxn) HX0.out (by rw[HLY.out];exact HBY.out) hz1
        have hr0:=lW (a:=x) (l:=rest') hz1
        rw[←HZ.out]at n1 n2 n3 hr0
        have hr:=xQ hr0
        have N1:=xQ n1
        have N2:=xQ n2
        have N3:=xQ n3
        clear n1 n2 n3 hz0 hz1 hr0
        go_wp2_with fail
        go_region_held3 (fun w'=>w'.cell? ⟨b,off+k,none⟩=some (.int .i64 (y:Int))∧w'.cell? ⟨b,off+(k-1),none⟩=some (.int .i64 (x:Int))) (first|(refine⟨?_,?_⟩<;>assumption)|go_keep) (first
         |(refine eX oN (by rfl) _ _ (by rfl) (MQ.out.adv (by first|exact(Ext.refl _).alloc _|exact Ext.drew ((Ext.refl _).alloc _)|exact xE)) 1 (by rfl) (by rfl) (aM ((y:Int),(x:Int))) (by rfl) (by first|exact dM _ _ _ 1 2 _ (by simp) (by simp) (by simp[maxLen])|exact(dM wq #[(y:Int),(x:Int)] TSL 1 2 _ (by simp) (by simp) (by simp[maxLen])).ext (Ext.drew (Ext.refl _))) (kW _ _) (by omega) ?_
           intro q7 c7 w6 M6
           have M7:=xQ (show Mem w w6 [aJ w.heap.size TI 1 (some ⟨g,0,none⟩) (n) (c0) (ivs (ys)),aJ w.heap.size TSL 2 (q7) ((l+1)) (c7) ((sl++ [((y:Int),(x:Int))]).flatMap aM),aL w.heap.size (gV) TH3 #[aA,aB,.slice (some ⟨g,0,none⟩) n c0],aL w.heap.size (w.heap.size) TH3 #[aA,aB,.slice (some ⟨pb,po,none⟩) n cap]]from by have h:=M6;simpa only[List.set_cons_zero,List.set_cons_succ,List.flatMap_append,List.flatMap_cons,List.flatMap_nil,List.append_nil]using h)
           clear M6
           have cb6:w6.cell? ⟨b,off+k,none⟩=some (.int .i64 (y:Int)):=(M7.out.ext.cells.1 _ _ hb).trans (HS.out k y HYY.out)
           have ca6:w6.cell? ⟨b,off+(k-1),none⟩=some (.int .i64 (x:Int)):=(M7.out.ext.cells.1 _ _ hb).trans (HS.out (k-1) x HYX.out)))
        clear MQ cax cbx hb2
        have v2:w6.cell? ⟨gV,2,none⟩=some (.slice (some ⟨g,0,none⟩) n c0):=(M7.out.blk (i:=2) rfl).cell 2
        have ltV:=(M7.out.lt (i:=2) rfl rfl).2
        have hb6:b<w6.heap.size:=Nat.lt_of_lt_of_le hb M7.out.ext.sz
        have cy:w6.cell? ⟨g,y,none⟩=some (.int .i64 z):=by
         have h1:=(cW (D:=ys) (v:=y) (by rw[HLY.out];exact hyn)).1
         rw[←HZ.out]at h1
         have:=(M7.out.own (i:=0) rfl).cellAt y (by omega);rw[this];simp only[ivs,List.getElem?_map,h1,Option.map_some]
        have cx:w6.cell? ⟨g,x,none⟩=some (.int .i64 0):=by
         have h1:=(cW (D:=ys) (v:=x) (by rw[HLY.out];exact hxn)).1
         rw[HX0.out]at h1
         have:=(M7.out.own (i:=0) rfl).cellAt x (by omega);rw[this];simp only[ivs,List.getElem?_map,h1,Option.map_some]
        have fy:w6.frozen? ⟨g,y,none⟩=false:=(M7.out.own (i:=0) rfl).frozenAt y
        have fx:w6.frozen? ⟨g,x,none⟩=false:=(M7.out.own (i:=0) rfl).frozenAt x
        have ng1: ¬(g=gV):=M7.out.ne (i:=0) (j:=2) (by omega) rfl rfl rfl rfl
        have ng2: ¬(gV=g):=fun e=>ng1 e.symm
        have hgw:w.heap.size≤g:=(M7.out.lt (i:=0) rfl rfl).1
        have ng3: ¬(g=b):=by omega
        have ng4: ¬(b=g):=by omega
        have nxy: ¬(x=y):=hxy
        have nyx: ¬(y=x):=fun e=>hxy e.symm
        go_upto_region 15 with fail
        go_region
        clear v2 ltV hb6 cy cx fy fx ng1 ng2 hgw ng3 ng4 nxy nyx ca6 cb6
        have MX:=xQ (show Mem w ((w6.setCell ⟨g,x,none⟩ (.int .i64 z)).setCell ⟨g,y,none⟩ (.int .i64 0)) [aJ w.heap.size TI 1 (some ⟨g,0,none⟩) (n) (c0) (ivs ((ys.set x z).set y 0)),aJ w.heap.size TSL 2 (q7) ((l+1)) (c7) ((sl++ [((y:Int),(x:Int))]).flatMap aM),aL w.heap.size (gV) TH3 #[aA,aB,.slice (some ⟨g,0,none⟩) n c0],aL w.heap.size (w.heap.size) TH3 #[aA,aB,.slice (some ⟨pb,po,none⟩) n cap]]from by rw[←dI,←dI];exact(M7.out.ostore (i:=0) rfl x (.int .i64 z)).ostore (i:=0) rfl y (.int .i64 0))
        have MY:=xQ (MX.out.adv (Ext.drew (Ext.refl _)))
        generalize hw8:World.drew _=w8
        rw[hw8]at MY
        clear hw8 MX M7
        go_wp2_with fail
        go_meet
        case rel=>exact⟨(ys.set x z).set y 0,q7,l+1,c7,sl++ [((y:Int),(x:Int))],rfl,rfl,by rw[List.length_append,←HSL.out];rfl,by omega,N1.out,by rw[N2.out,HLY.out],N3.out,by rw[←HRES.out,hr.out];simp,MY.out⟩
      case rest=>
       obtain⟨ys',q',l',lc',sl',rfl,rfl,hl',hlk',hok',hlen',hy0',hres',hMc⟩:=hcut
       have h1:=xQ hl'
       have h2:=xQ hok'
       have h3:=xQ hlen'
       have h4:=xQ hy0'
       have h5:=xQ hres'
       have h6:=xQ hMc
       clear hl' hok' hlen' hy0' hres' hMc HM ca cb cy v2 ltV hb'
       go_wp2
       go_roundw
       case rel=>exact⟨k+1,y,rest',ys',q',l',lc',sl',by omega,by omega,by go_num,rfl,h1.out,by omega,by rw[Nat.add_sub_cancel];exact HDR2.out,h2.out,h3.out,hyn,h4.out,HSTO.out.2,h5.out,h6.out⟩
       case measure=>simp[intOf];omega
     ·obtain rfl:m=k:=by omega
      have hrest:rest= []:=by
       have h1:=congrArg List.length HDR.out
       rw[List.length_drop,hwl.out]at h1
       cases rest with
       |nil=>rfl
       |cons y r=>simp at h1;omega
      subst hrest
      have hfin:Hid (sl=(bW xs u ws0).2):=by show _=_;rw[←HRES.out];simp[bW]
      go_wp2
      go_ret
      have hl2:=HSL.out
      subst hl2
      rw[←hfin.out]
      exact⟨q5,lc,rfl,HM.out.own (i:=1) rfl,HM.out.ext⟩
theorem aIx (aA aB:Int)(p:OA)(n cap:Nat)(xs:List Int)(lq:OA)(m lc u:Nat)(w:World)(hS:Sl w p n cap 1 (ivs xs))(hok:aP aA aB xs=true)(hu:u<n)(hu0:xs.getD u 0=0)
  (hL:Sl w lq m lc 1 (ivs (bD (cR aA n 12 u)))):
  Calls Tryz.prog 176 #[aI aA aB p n cap,.slice lq m lc] w (fR (bW xs u (cR aA n 12 u).tail).2 w):=by
 have hl:=hS.ilen
 subst hl
 have hg:=iL hok
 obtain⟨g1,g2,g3,g4,g5,g6,g7⟩:=bR (cF hok)
 obtain⟨k1,k2,k3⟩:=gU hg hu
 have hm:=hL.ilen
 rw[List.length_map]at hm
 obtain⟨pb,po,rfl,hpb,hpc⟩:=hS.rd (by omega)
 obtain⟨b,off,rfl,hb,hc⟩:=hL.rd (by omega)
 have hcell: ∀(k x:Nat),(cR aA xs.length 12 u)[k]? =some x→w.cell? ⟨b,off+k,none⟩=some (.int .i64 (x:Int)):=by
  intro k x hx
  have hk:=(List.getElem?_eq_some_iff.1 hx).1
  rw[hc k (by omega)]
  simp[ivs,bD,hx]
 have hcons:=qZ aA xs.length 12 u
 have hu':w.cell? ⟨b,off,none⟩=some (.int .i64 (u:Int)):=hcell 0 u (by rw[hcons];rfl)
 have hp0:w.cell? ⟨pb,po+u,none⟩=some (.int .i64 0):=by
  rw[hpc u (by omega)]
  rw[List.getD_eq_getElem?_getD,List.getElem?_eq_getElem hu]at hu0
  simp only[Option.getD_some]at hu0
  simp[ivs,hu,hu0]
 have HV: ∀w',Ext w w'→Calls Tryz.prog 80 #[aI aA aB (some ⟨pb,po,none⟩) xs.length cap] w' fun e w''=>e= .returned (.bool true)∧Ext w' w'':=fun w' hy=>by
  have:=fJ aA aB _ xs.length cap xs w' (hS.ext hy)
  rwa[hok]at this
 have HH: ∀w',Calls Tryz.prog 152 #[aI aA aB (some ⟨pb,po,none⟩) xs.length cap,(u:Int)] w' fun e w''=>e= .returned (.bool true)∧Ext w' w'':=fun w'=>by
  have:=gM aA aB (u:Int) (some ⟨pb,po,none⟩) xs.length cap w' (by omega)
  rwa[decide_eq_true (⟨by omega,by omega⟩:0≤(u:Int)∧(u:Int)<xs.length)]at this
 refine aGj aA aB pb po xs.length cap xs b off m lc u (cR aA xs.length 12 u).tail (cR aA xs.length 12 u) w g5 g6 (by omega) (by omega) hcons hm hb hpb hok rfl hu hu0 (oV hg 12 u hu) hcell hu' hp0 HV HH ?_
  (fun w' hy=>jN aA aB _ xs.length cap xs w' (by omega) (hS.ext hy))
 intro k x y hk hx hy w' hw
 obtain⟨k,rfl⟩: ∃j,k=j+1:=⟨k-1,by omega⟩
 rw[Nat.add_sub_cancel]at hx
 have h2:=pW hg 12 u k x y hu hx hy
 have hxn:=aC8 hg 12 u x hu (List.mem_of_getElem? hx)
 have h3:=bM.1 h2.2
 have:=aJ2 aA aB x y _ xs.length cap xs w' (hS.ext hw) hok hxn h3.1
 rwa[h3.2]at this
def dS (aA aB:Int)(xs:List Int)(l:List Sl2):List Int:=l.foldl (fun ys s=>bE aA aB ys s.1 s.2) xs
theorem zU (aA aB:Int)(xs:List Int)(l:List Sl2)(s:Sl2):dS aA aB xs (l++ [s])=bE aA aB (dS aA aB xs l) s.1 s.2:=by simp[dS]
theorem uI {aA aB:Int}: ∀(l:List Sl2) (xs:List Int),aP aA aB xs=true→aP aA aB (dS aA aB xs l)=true∧(dS aA aB xs l).length=xs.length:=by
 intro l
 induction l with
 |nil=>intro xs h;exact⟨h,rfl⟩
 |cons s l ih=>
  intro xs h
  have:=ih (bE aA aB xs s.1 s.2) (fZ _ _ h)
  exact⟨this.1,by rw[show dS aA aB xs (s::l)=dS aA aB (bE aA aB xs s.1 s.2) l from rfl,this.2,cN]⟩
theorem zF (aA aB:Int)(p:OA)(n cap:Nat)(xs:List Int)(lq:OA)(m lc:Nat)(l:List Sl2)(w:World)(hlm:Hid (l.length=m))(hlen:Hid (xs.length=n))(hok:Hid (aP aA aB xs=true))(HLs:Hid (Sl w lq m lc 2 (l.flatMap aM)))
  (HK:xC 105 #[aI aA aB p n cap] w fun w' e w''=> ∃q c,e= .returned (aI aA aB q n c)∧w''.ownsRow w'.heap.size TI 1 (.slice q n c) n (ivs xs)∧Ext w' w''):
  Calls Tryz.prog 147 #[aI aA aB p n cap,.slice lq m lc] w (dF aA aB (dS aA aB xs l) w):=by
 have hbd:=HLs.out.bd
 go_enter Tryz.func147,Tryz.ntmps147
 go_wp2_with fail
 refine(HK.out _ (Mem.b2 w).ext).mono ?_
 rintro e w1 ⟨q0,c0,rfl,ho1,hx1⟩
 have M1:=xQ ((Mem.b2 w).call hx1 ho1)
 have lt1_1:=M1.out.hi 1
 have lt1_2:=M1.out.hi 2
 clear hx1 ho1
 have M2:=xQ (show Mem w _ [aJ w.heap.size TI 1 (q0) (n) (c0) (ivs (xs)),aL w.heap.size (w1.heap.size) TH3 #[aA,aB,.slice q0 n c0],aL w.heap.size (w.heap.size+1) TH3 #[(),(),((),())],aL w.heap.size (w.heap.size) TH3 #[aA,aB,.slice p n cap]]from(M1.out.blkNew TH3 #[aA,aB,.slice q0 n c0] w1.heap.size rfl).pick [1,0,2,3] (by decide) rfl)
 clear M1 lt1_1 lt1_2
 obtain⟨gV,hgV⟩: ∃gV,gV=w1.heap.size:=⟨_,rfl⟩
 rw[←hgV]at M2
 go_wp2
 rw[←hgV]
 have HGV:=xQ hgV
 clear hgV
 go_loopw [12] (fun i wr=> ∃(k:Nat) (q:OA) (c:Nat),k≤m∧i= .int .i64 (k:Int)∧Mem w wr [aJ w.heap.size TI 1 (q) (n) (c) (ivs (dS aA aB xs (l.take k))),aL w.heap.size (gV) TH3 #[aA,aB,.slice q n c],aL w.heap.size (w.heap.size+1) TH3 #[(),(),((),())],aL w.heap.size (w.heap.size) TH3 #[aA,aB,.slice p n cap]]) (fun i _=>m-(intOf i).toNat)
 case atStart=>exact⟨0,q0,c0,Nat.zero_le _,rfl,M2.out⟩
 case round=>
  clear M2
  obtain⟨k,q,c,hk,rfl,hM⟩:=hrel
  have HM:=xQ hM
  clear hM
  by_cases hlt:k<m
  ·obtain⟨b,off,f,t,hlq,hx,hb,cs0,cs1⟩:=xS (HLs.out.ext HM.out.ext) hlt
   subst hlq
   have i1:(0:Int)≤(k:Int):=by omega
   have i2:(k:Int)<(m:Int):=by omega
   have hst:Hid (dS aA aB xs (l.take (k+1))=bE aA aB (dS aA aB xs (l.take k)) f t):=by show _=_;rw[bF hx,zU]
   clear hx
   obtain⟨d1,d2⟩:=uI (l.take k) xs hok.out
   have HD:xC 70 #[aI aA aB q n c,dK f t] wr fun w' e w''=> ∃q' c',e= .returned (.tuple #[aI aA aB q' n c',.bool (bC aA aB (dS aA aB xs (l.take k)) f t)])∧w''.ownsRow w'.heap.size TI 1 (.slice q' n c') n (ivs (dS aA aB xs (l.take (k+1))))∧Ext w' w'':=fun w' hx=>by
    refine(tZ aA aB f t q n c _ w' ((HM.out.sl (i:=0) rfl).ext hx) d1).mono ?_
    rintro e w'' ⟨q',c',h1,h2,h3⟩
    have hl:(bE aA aB (dS aA aB xs (l.take k)) f t).length=n:=by rw[cN,d2,hlen.out]
    rw[hl]at h1 h2
    exact⟨q',c',h1,by rw[hst.out];exact h2,h3⟩
   clear d1 d2
   have lt5_1:gV<wr.heap.size:=(HM.out.lt (i:=1) rfl rfl).2
   have lt5_2:w.heap.size+1<wr.heap.size:=(HM.out.lt (i:=2) rfl rfl).2
   have lt5_3:w.heap.size<wr.heap.size:=(HM.out.lt (i:=3) rfl rfl).2
   obtain⟨v0,v1,v2⟩:=((HM.out.blk (i:=1) rfl)).tri
   go_wp2_with fail
   clear v0 v1 v2 cs0 cs1
   refine(HD.out _ ((Ext.refl _).alloc _)).mono ?_
   rintro e w6 ⟨q6,c6,rfl,ho6,hx6⟩
   have M6:=xQ ((((HM.out).blkNew TSL #[f,t] (wr.heap.size) (by simp))).call hx6 ho6)
   clear HM lt5_1 lt5_2 lt5_3
   have lt6_1:=M6.out.hi 1
   have lt6_3:=M6.out.hi 3
   have lt6_4:=M6.out.hi 4
   have lt6_5:=M6.out.hi 5
   clear hx6 ho6
   obtain⟨v0,vf0,v1,vf1,v2,vf2⟩:=((M6.out.blk (i:=3) rfl)).trif
   go_wp2
   have M7:=xQ (((((M6.out).st 3 0 (.int .i64 aA))).st 3 1 (.int .i64 aB)))
   have M8:=xQ (((M7.out).st 3 2 (.slice q6 n c6)))
   have M9:=xQ (show Mem w (((w6.setCell ⟨gV,0,none⟩ (.int .i64 aA)).setCell ⟨gV,1,none⟩ (.int .i64 aB)).setCell ⟨gV,2,none⟩ (.slice q6 n c6)) [aJ w.heap.size TI 1 (q6) (n) (c6) (ivs (dS aA aB xs (l.take (k+1)))),aL w.heap.size (wr.heap.size) TSL #[f,t],aJ w.heap.size TI 1 (q) (n) (c) (ivs (dS aA aB xs (l.take k))),aL w.heap.size (gV) TH3 #[aA,aB,.slice q6 n c6],aL w.heap.size (w.heap.size+1) TH3 #[(),(),((),())],aL w.heap.size (w.heap.size) TH3 #[aA,aB,.slice p n cap]]from M8.out)
   generalize hwz:World.setCell _ _ _=wz
   rw[hwz]at M9
   clear hwz M6 M7 M8 v0 vf0 v1 vf1 v2 vf2
   go_roundw
   case rel=>exact⟨k+1,q6,c6,by omega,by go_num,((M9.out).pick [0,3,4,5] (by decide) rfl)⟩
   case measure=>simp[intOf];omega
  ·obtain rfl:m=k:=by omega
   have hfin:Hid (dS aA aB xs (l.take m)=dS aA aB xs l):=by show _=_;rw[←hlm.out,List.take_length]
   rw[hfin.out]at HM
   have lt5_1:gV<wr.heap.size:=(HM.out.lt (i:=1) rfl rfl).2
   have lt5_2:w.heap.size+1<wr.heap.size:=(HM.out.lt (i:=2) rfl rfl).2
   have lt5_3:w.heap.size<wr.heap.size:=(HM.out.lt (i:=3) rfl rfl).2
   obtain⟨v0,v1,v2⟩:=((HM.out.blk (i:=1) rfl)).tri
   obtain⟨z0,zf0,z1,zf1,z2,zf2⟩:=((HM.out.blk (i:=2) rfl)).trif
   have ne0_1a: ¬(gV=w.heap.size+1):=HM.out.ne (i:=1) (j:=2) (by omega) rfl rfl rfl rfl
   have ne0_1b: ¬(w.heap.size+1=gV):=fun h=>ne0_1a h.symm
   go_wp2
   have M6:=xQ (((((HM.out).st 2 0 (.int .i64 aA))).st 2 1 (.int .i64 aB)))
   have M7:=xQ (((M6.out).st 2 2 (.slice q n c)))
   have M8:=xQ (show Mem w (((wr.setCell ⟨w.heap.size+1,0,none⟩ (.int .i64 aA)).setCell ⟨w.heap.size+1,1,none⟩ (.int .i64 aB)).setCell ⟨w.heap.size+1,2,none⟩ (.slice q n c)) [aJ w.heap.size TI 1 (q) (n) (c) (ivs (dS aA aB xs l)),aL w.heap.size (gV) TH3 #[aA,aB,.slice q n c],aL w.heap.size (w.heap.size+1) TH3 #[aA,aB,.slice q n c],aL w.heap.size (w.heap.size) TH3 #[aA,aB,.slice p n cap]]from M7.out)
   generalize hwz:World.setCell _ _ _=wz
   rw[hwz]at M8
   clear hwz HM M6 M7 v0 v1 v2 z0 zf0 z1 zf1 z2 zf2 ne0_1a ne0_1b
   obtain⟨y0,y1,y2⟩:=((M8.out.blk (i:=2) rfl)).tri
   exact bodyPost_ret (v:=aI aA aB q n c) (by simp[results,Tryz.results147,go_sem, *]) rfl (rK (by exact(uI l xs hok.out).2.trans hlen.out) (M8.out.own (i:=0) rfl) M8.out.ext)
theorem uB (aA aB:Int)(p:OA)(n cap:Nat)(xs:List Int)(lq:OA)(m lc:Nat)(l:List Sl2)(w:World)(hlm:l.length=m)(hS:Sl w p n cap 1 (ivs xs))(hok:aP aA aB xs=true)(hL:Sl w lq m lc 2 (l.flatMap aM)):
  Calls Tryz.prog 147 #[aI aA aB p n cap,.slice lq m lc] w (dF aA aB (dS aA aB xs l) w):=by
 have hl:=hS.ilen
 subst hl
 obtain⟨g1,g2,g3,g4,g5,g6,g7,g8,g9⟩:=bN hok
 exact zF aA aB p xs.length cap xs lq m lc l w hlm rfl hok hL (fun w' hx=>jN aA aB p xs.length cap xs w' (by omega) (hS.ext hx))
end Go.Proofs.YtgnkoffndhmhpaaGreatDoor
