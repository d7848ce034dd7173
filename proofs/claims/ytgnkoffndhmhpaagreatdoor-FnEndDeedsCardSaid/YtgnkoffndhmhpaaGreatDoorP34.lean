/-
  Texts of this proof, packed (@packed).
-/
import Derived.Deep.CutBlock
import Derived.Test.YtgnkoffndhmhpaaGreatDoorP5
import Derived.Test.YtgnkoffndhmhpaaGreatDoorP11
import Derived.Test.YtgnkoffndhmhpaaGreatDoorP13
import Derived.Test.YtgnkoffndhmhpaaGreatDoorP33
namespace Go.Proofs.YtgnkoffndhmhpaaGreatDoor
open Go.RowKit
set_option linter.unusedVariables false
set_option linter.unusedSimpArgs false
set_option maxHeartbeats 8000000
set_option maxRecDepth 100000
theorem aIr (aA aB:Int)(pb po:Nat)(n cap:Nat)(xs:List Int)(b off m c2 u:Nat)(ws0 ws:List Nat)(w:World)(hn0:4≤n)(hn:n≤12)(hm0:0<m)(hm:m≤12)(HWS:Hid (ws=u::ws0))(hwl:Hid (ws.length=m))(hb:b<w.heap.size)(hpb:pb<w.heap.size)
  (hok:Hid (aN aA aB xs=true))(hlen:Hid (xs.length=n))(hu:u<n)(hu0:Hid (xs.getD u 0=0))(hst:Hid (mH aA n u ws0))
  (HS:Hid (∀(k x:Nat),ws[k]? =some x→w.cell? ⟨b,off+k,none⟩=some (.int .i64 (x:Int)))) (cu0:w.cell? ⟨b,off,none⟩=some (.int .i64 (u:Int))) (cp0:w.cell? ⟨pb,po+u,none⟩=some (.int .i64 0))
  (HV:xB 80 #[aH aA aB (some ⟨pb,po,none⟩) n cap] w true)
  (HH:Hid (∀w',Calls Tryz.prog 152 #[aH aA aB (some ⟨pb,po,none⟩) n cap,(u:Int)] w' fun e w''=>e= .returned (.bool true)∧Ext w' w''))
  (HCA:Hid (∀(k x y:Nat),1≤k→ws[k-1]? =some x→ws[k]? =some y→ ∀w',Ext w w'→Calls Tryz.prog 196 #[aH aA aB (some ⟨pb,po,none⟩) n cap,(x:Int),(y:Int)] w' fun e w''=>e= .returned (.int .i64 1)∧Ext w' w''))
  (HK:Hid (∀w',Ext w w'→Calls Tryz.prog 105 #[aH aA aB (some ⟨pb,po,none⟩) n cap] w' (cZ aA aB xs w'))):
  Calls Tryz.prog 176 #[aH aA aB (some ⟨pb,po,none⟩) n cap,.slice (some ⟨b,off,none⟩) m c2] w (eY (cF xs u ws0).2 w):=by
 have j1:(0:Int)≤(u:Int):=by omega
 have j2:(u:Int)<(n:Int):=by omega
 have j3:(0:Int)<(m:Int):=by omega
 have j4:((m:Int)==0)=false:=by first|(simp;done)|(simp;omega)
 go_enter Tryz.func176,Tryz.ntmps176
 have ME:=((Mem.start w).bn TH3 #[aA,aB,.slice (some ⟨pb,po,none⟩) n cap] w.heap.size)
 go_wp2
 refine rL (gl [gEq (.agg #[aA,aB,.slice (some ⟨pb,po,none⟩) n cap]),gEq (.bool true),gEq (.bool false),gEq (.bool false),gEq (.slice (some ⟨b,off,none⟩) m c2),gEq (m:Int),gEq (.bool false),gEq (.bool false),gEq (.bool false),gEq (.agg #[aA,aB,.slice (some ⟨pb,po,none⟩) n cap]),gEq (.slice (some ⟨b,off,none⟩) m c2),gEq (.pointer (some ⟨b,off,none⟩)),gEq (u:Int),gEq (.bool true),gEq (.bool false),gEq (.bool false),gEq (.bool false),gEq (.pointer (some ⟨w.heap.size,2,none⟩)),gEq (.slice (some ⟨pb,po,none⟩) n cap),gEq (.slice (some ⟨b,off,none⟩) m c2),gEq (.pointer (some ⟨b,off,none⟩)),gEq (u:Int),gEq (.pointer (some ⟨pb,po+u,none⟩)),gEq (.int .i64 0),gEq (.bool false),gEq (.bool false)]) 26 26 [(0,some 9),(1,some 10),(2,some 11),(3,some 12),(4,some 13),(5,some 14),(6,some 15),(7,some 16),(8,some 17),(9,some 18),(10,some 19),(11,some 20),(12,some 21),(13,some 22),(14,some 23),(15,some 24),(16,some 25),(17,some 26),(18,some 27),(19,some 28),(20,some 29),(21,some 30),(22,some 31),(23,some 32),(24,some 33),(25,some 34)] ?steps ?fin
 case steps=>
  refine sC [] rfl (fun wi hx=> ?_) ?_
  ·intro K hK
   have hX:Ext (w.alloc (.cells #[aA,aB,.slice (some ⟨pb,po,none⟩) n cap] TH3)) wi:=xE
   obtain⟨c,bl,bg⟩:=((ME.bk 0).ext hX).tri
   go_simp
   exact hK _ _ ⟨.agg #[aA,aB,.slice (some ⟨pb,po,none⟩) n cap],rfl,rfl,Ext.refl _⟩
  refine sC [(0,some 9)] rfl (fun wi hx=> ?_) ?_
  ·intro v0 h0 K hK
   obtain rfl:=h0
   have hX:Ext w wi:=xE
   go_wp2_with fail
   refine(HV _ hX).mono ?_
   rintro e w5 ⟨rfl,s⟩
   go_simp
   exact hK _ _ ⟨.bool true,rfl,rfl,s⟩
  refine sS1 [(1,some 10)] (sS1 [(2,some 11)] (sS1 [(3,some 12)] (sS2 [(3,some 12),(4,some 13)] (sS2 [(3,some 12),(5,some 14)] (sS2 [(3,some 12),(6,some 15)] (sS1 [(7,some 16)] ?_))))))
  refine sC [(8,some 17)] rfl (fun wi hx=> ?_) ?_
  ·intro v8 h8 K hK
   obtain rfl:=h8
   have hX:Ext (w.alloc (.cells #[aA,aB,.slice (some ⟨pb,po,none⟩) n cap] TH3)) wi:=xE
   obtain⟨c,bl,bg⟩:=((ME.bk 0).ext hX).tri
   go_simp
   exact hK _ _ ⟨.agg #[aA,aB,.slice (some ⟨pb,po,none⟩) n cap],rfl,rfl,Ext.refl _⟩
  refine sS1 [(8,some 17)] (sS2 [(8,some 17),(10,some 19)] ?_)
  refine sC [(8,some 17),(11,some 20)] rfl (fun wi hx=> ?_) ?_
  ·intro v8 h8 bj ad K hK
   obtain rfl:=h8
   obtain rfl:=ad
   have hX:Ext (w.alloc (.cells #[aA,aB,.slice (some ⟨pb,po,none⟩) n cap] TH3)) wi:=xE
   have c:wi.cell? ⟨b,off,none⟩=some (.int .i64 (u:Int)):=(ME.ext.trans hX).cells.1 _ _ hb |>.trans cu0
   go_simp
   exact hK _ _ ⟨.int .i64 (u:Int),rfl,rfl,Ext.refl _⟩
  refine sC [(8,some 17),(9,some 18),(12,some 21)] rfl (fun wi hx=> ?_) ?_
  ·intro v8 h8 v9 h9 bw a0 K hK
   obtain rfl:=h8
   obtain rfl:=h9
   obtain rfl:=a0
   have hX:Ext w wi:=xE
   go_wp2_with fail
   refine(HH _).mono ?_
   rintro e w5 ⟨rfl,s⟩
   go_simp
   exact hK _ _ ⟨.bool true,rfl,rfl,s⟩
  refine sS2 [(8,some 17),(13,some 22)] (sS2 [(8,some 17),(14,some 23)] (sS1 [(15,some 24)] (sS1 [(16,some 25)] ?_)))
  refine sC [(16,some 25),(17,some 26)] rfl (fun wi hx=> ?_) ?_
  ·intro ay d b8 au K hK
   obtain rfl:=d
   obtain rfl:=au
   have hX:Ext (w.alloc (.cells #[aA,aB,.slice (some ⟨pb,po,none⟩) n cap] TH3)) wi:=xE
   have c:=((ME.bk 0).ext hX).cl 2
   go_simp
   exact hK _ _ ⟨.slice (some ⟨pb,po,none⟩) n cap,rfl,rfl,Ext.refl _⟩
  refine sS1 [(16,some 25)] (sS2 [(16,some 25),(19,some 28)] ?_)
  refine sC [(16,some 25),(20,some 29)] rfl (fun wi hx=> ?_) ?_
  ·intro ay d cc a2 K hK
   obtain rfl:=d
   obtain rfl:=a2
   have hX:Ext (w.alloc (.cells #[aA,aB,.slice (some ⟨pb,po,none⟩) n cap] TH3)) wi:=xE
   have c:wi.cell? ⟨b,off,none⟩=some (.int .i64 (u:Int)):=(ME.ext.trans hX).cells.1 _ _ hb |>.trans cu0
   go_simp
   exact hK _ _ ⟨.int .i64 (u:Int),rfl,rfl,Ext.refl _⟩
  refine sS3 [(16,some 25),(18,some 27),(21,some 30)] ?_
  refine sC [(16,some 25),(22,some 31)] rfl (fun wi hx=> ?_) ?_
  ·intro ay d cn a3 K hK
   obtain rfl:=d
   obtain rfl:=a3
   have hX:Ext (w.alloc (.cells #[aA,aB,.slice (some ⟨pb,po,none⟩) n cap] TH3)) wi:=xE
   have c:wi.cell? ⟨pb,po+u,none⟩=some (.int .i64 0):=(ME.ext.trans hX).cells.1 _ _ hpb |>.trans cp0
   go_simp
   exact hK _ _ ⟨.int .i64 0,rfl,rfl,Ext.refl _⟩
  exact sS2 [(16,some 25),(23,some 32)] (sS2 [(16,some 25),(24,some 33)] StepsL.nil)
 case fin=>
  intro wi hx v0 h0 v1 h1 v2 h2 v3 h3 v4 h4 v5 h5 v6 h6 v7 h7 v8 h8 v9 h9 cr ax bj ad bw a0 ct br cv b3 cz bz ay d b8 au c9 b2 c6 bx cc a2 c8 cg cn a3 c3 cm c4 b5 da ch
  obtain rfl:=h0
  obtain rfl:=h1
  obtain rfl:=h2
  obtain rfl:=h3
  obtain rfl:=h4
  obtain rfl:=h5
  obtain rfl:=h6
  obtain rfl:=h7
  obtain rfl:=h8
  obtain rfl:=h9
  obtain rfl:=ax
  obtain rfl:=ad
  obtain rfl:=a0
  obtain rfl:=br
  obtain rfl:=b3
  obtain rfl:=bz
  obtain rfl:=d
  obtain rfl:=au
  obtain rfl:=b2
  obtain rfl:=bx
  obtain rfl:=a2
  obtain rfl:=cg
  obtain rfl:=a3
  obtain rfl:=cm
  obtain rfl:=b5
  obtain rfl:=ch
  have hX:Ext (w.alloc (.cells #[aA,aB,.slice (some ⟨pb,po,none⟩) n cap] TH3)) wi:=hx.of_drew
  have M1:=(ME.adv hX)
  clear ME hX hx
  refine wpAny_done (by kernel_rfl) ?_ _
  try simp only[Act.put,List.setIfInBounds_toArray,List.set_cons_zero,List.set_cons_succ]
  go_wp2
  go_loopw [5] (fun i wr=> ∃(k:Nat),1≤k∧k≤m∧i= .int .i64 (k:Int)∧Mem w wr [aI w.heap.size (w.heap.size) TH3 #[aA,aB,.slice (some ⟨pb,po,none⟩) n cap]]) (fun i _=>m-(intOf i).toNat)
  case atStart=>exact⟨1,Nat.le_refl _,by omega,rfl,M1⟩
  case round=>
   clear M1
   obtain⟨k,bi,hk,rfl,hM⟩:=hrel
   have HM:=hM
   clear hM
   by_cases hlt:k<m
   ·obtain⟨x,hx⟩: ∃x,ws[k-1]? =some x:=⟨_,List.getElem?_eq_getElem (by rw[hwl.out];omega)⟩
    obtain⟨y,hy⟩: ∃y,ws[k]? =some y:=⟨_,List.getElem?_eq_getElem (by rw[hwl.out];omega)⟩
    have ca:wr.cell? ⟨b,off+(k-1),none⟩=some (.int .i64 (x:Int)):=(HM.ext.cells.1 _ _ hb).trans (HS (k-1) x hx)
    have cb:wr.cell? ⟨b,off+k,none⟩=some (.int .i64 (y:Int)):=(HM.ext.cells.1 _ _ hb).trans (HS k y hy)
    have p:b<wr.heap.size:=Nat.lt_of_lt_of_le hb HM.ext.sz
    have bo:=xQ (HCA k x y bi hx hy)
    clear hx hy
    have i1:(0:Int)≤(k:Int):=by omega
    have i2:(k:Int)<(m:Int):=by omega
    have i3:(k:Int)-1<(m:Int):=by omega
    have i4:((k:Int)-1).toNat=k-1:=by omega
    have i5:(1:Int)≤(k:Int):=by omega
    go_wp2
    refine rL (gl [gEq (.agg #[aA,aB,.slice (some ⟨pb,po,none⟩) n cap]),gEq (.slice (some ⟨b,off,none⟩) m c2),gEq (k:Int),gEq ((k:Int)-1:Int),gEq (.pointer (some ⟨b,off+(k-1),none⟩)),gEq (x:Int),gEq (.slice (some ⟨b,off,none⟩) m c2),gEq (k:Int),gEq (.pointer (some ⟨b,off+k,none⟩)),gEq (y:Int),gEq (.int .i64 1),gEq (.bool false)]) 12 12 [(0,some 41),(1,some 42),(2,some 43),(3,some 44),(4,some 45),(5,some 46),(6,some 47),(7,some 48),(8,some 49),(9,some 50),(10,some 51),(11,some 52)] ?steps ?fin
    case steps=>
     refine sC [] rfl (fun wi hx=> ?_) ?_
     ·intro K hK
      have hX:Ext wr wi:=xE
      obtain⟨c,bl,bg⟩:=((HM.bk 0).ext hX).tri
      go_simp
      exact hK _ _ ⟨.agg #[aA,aB,.slice (some ⟨pb,po,none⟩) n cap],rfl,rfl,Ext.refl _⟩
     refine sS0 [] (sS0 [] ?_)
     refine sC [(2,some 43)] rfl (fun wi hx=> ?_) ?_
     ·intro v2 h2 K hK
      obtain rfl:=h2
      have cu:IntKind.i64.wrap ((k:Int)-1)=(k:Int)-1:=IntWalk.i64_in _ (by omega)
      go_simp
      exact hK _ _ ⟨.int .i64 ((k:Int)-1),rfl,rfl,Ext.refl _⟩
     refine sS2 [(1,some 42),(3,some 44)] ?_
     refine sC [(4,some 45)] rfl (fun wi hx=> ?_) ?_
     ·intro v4 h4 K hK
      obtain rfl:=h4
      have hX:Ext wr wi:=xE
      have c:wi.cell? ⟨b,off+(k-1),none⟩=some (.int .i64 (x:Int)):=(hX.cells.1 _ _ p).trans ca
      go_simp
      exact hK _ _ ⟨.int .i64 (x:Int),rfl,rfl,Ext.refl _⟩
     refine sS0 [] (sS0 [] (sS2 [(6,some 47),(7,some 48)] ?_))
     refine sC [(8,some 49)] rfl (fun wi hx=> ?_) ?_
     ·intro v8 h8 K hK
      obtain rfl:=h8
      have hX:Ext wr wi:=xE
      have c:wi.cell? ⟨b,off+k,none⟩=some (.int .i64 (y:Int)):=(hX.cells.1 _ _ p).trans cb
      go_simp
      exact hK _ _ ⟨.int .i64 (y:Int),rfl,rfl,Ext.refl _⟩
     refine sC [(0,some 41),(5,some 46),(9,some 50)] rfl (fun wi hx=> ?_) ?_
     ·intro v0 h0 v5 h5 v9 h9 K hK
      obtain rfl:=h0
      obtain rfl:=h5
      obtain rfl:=h9
      have hX:Ext wr wi:=xE
      go_wp2_with fail
      refine(bo _ (HM.ext.trans hX)).mono ?_
      rintro e w5 ⟨rfl,s⟩
      go_simp
      exact hK _ _ ⟨.int .i64 1,rfl,rfl,s⟩
     exact sS1 [(10,some 51)] StepsL.nil
    case fin=>
     intro wi hx v0 h0 v1 h1 v2 h2 v3 h3 v4 h4 v5 h5 v6 h6 v7 h7 v8 h8 v9 h9 cr ax bj ad
     obtain rfl:=h0
     obtain rfl:=h1
     obtain rfl:=h2
     obtain rfl:=h3
     obtain rfl:=h4
     obtain rfl:=h5
     obtain rfl:=h6
     obtain rfl:=h7
     obtain rfl:=h8
     obtain rfl:=h9
     obtain rfl:=ax
     obtain rfl:=ad
     have hX:Ext wr wi:=hx.of_drew
     have M2:=(HM.adv hX)
     clear HM hX hx ca cb bo
     refine wpAny_done (by kernel_rfl) ?_ _
     try simp only[Act.put,List.setIfInBounds_toArray,List.set_cons_zero,List.set_cons_succ]
     go_wp2
     go_roundw
     case rel=>exact⟨k+1,by omega,by omega,by go_num,M2⟩
     case measure=>simp[intOf];omega
   ·obtain rfl:m=k:=by omega
    have b0:=(HM.bk 0).tri
    obtain⟨h0,h1,h2⟩:=b0
    have cf:=(HM.hi 0)
    go_wp2_with fail
    clear h0 h1 h2 cf
    refine(HK _ HM.ext).mono ?_
    rintro e w2 ⟨q0,c0,rfl,o2,a8⟩
    rw[hlen.out]at o2⊢
    have M2:=(HM.call a8 o2)
    clear o2 a8 HM
    obtain⟨g,rfl,cp,b7⟩:=M2.so 0
    clear cp b7
    have M3:=(M2.bn TH3 #[aA,aB,.slice (some ⟨g,0,none⟩) n c0] w2.heap.size)
    have M4:=(show Mem w _ [aJ w.heap.size TI 1 (some ⟨g,0,none⟩) (n) (c0) (ivs (xs)),aJ w.heap.size TSL 2 (none) (0) (0) (([]).flatMap aK),aI w.heap.size (w2.heap.size) TH3 #[aA,aB,.slice (some ⟨g,0,none⟩) n c0],aI w.heap.size (w.heap.size) TH3 #[aA,aB,.slice (some ⟨pb,po,none⟩) n cap]]from(M3.ownNew (Ext.refl _) (World.ownsRow_nil _ _ TSL 2) (Nat.le_refl _)).pick [2,0,1,3] (by decide) rfl)
    clear M2 M3
    obtain⟨gV,ah⟩: ∃gV,gV=w2.heap.size:=⟨_,rfl⟩
    rw[←ah]at M4
    go_wp2
    rw[←ah]
    have c1:=xQ ah
    clear ah
    go_loopw [6,8] (fun v i wr=> ∃(k x:Nat) (rest:List Nat) (ys:List Int) (q5:OA) (l lc:Nat) (sl:List Sl2),1≤k∧k≤m∧i= .int .i64 (k:Int)∧v= .slice q5 l lc∧l=sl.length∧l≤k∧ws.drop (k-1)=x::rest∧aN aA aB ys=true∧ys.length=n∧x<n∧ys.getD x 0=0∧mH aA n x rest∧sl++(cF ys x rest).2=(cF xs u ws0).2∧Mem w wr [aJ w.heap.size TI 1 (some ⟨g,0,none⟩) (n) (c0) (ivs (ys)),aJ w.heap.size TSL 2 (q5) (l) (lc) (sl.flatMap aK),aI w.heap.size (gV) TH3 #[aA,aB,.slice (some ⟨g,0,none⟩) n c0],aI w.heap.size (w.heap.size) TH3 #[aA,aB,.slice (some ⟨pb,po,none⟩) n cap]]) (fun _ i _=>m-(intOf i).toNat)
    case atStart=>exact⟨1,u,ws0,xs,none,0,0,[],Nat.le_refl _,by omega,rfl,rfl,rfl,by omega,by rw[HWS.out];rfl,hok.out,hlen.out,hu,hu0.out,hst.out,rfl,M4⟩
    case round=>
     clear M4
     obtain⟨k,x,rest,ys,q5,l,lc,sl,bi,hk,rfl,rfl,hl,c5,be,ap,a6,a4,bm,ao,ak,hM⟩:=hrel
     have ag:=xQ be
     have an:=xQ ap
     have o:=xQ a6
     have bd:=xQ bm
     have aj:=xQ ao
     have aa:=xQ ak
     have aq:=xQ hl
     have HM:=hM
     clear be ap a6 bm ao ak hM hl
     by_cases hlt:k<m
     ·obtain⟨y,rest',f⟩: ∃y rest',rest=y::rest':=by
       have h1:=congrArg List.length ag.out
       rw[List.length_drop,hwl.out]at h1
       cases rest with
       |nil=>simp at h1;omega
       |cons y r=>exact⟨y,r,rfl⟩
      subst f
      have a1:ws[k-1]? =some x:=by have:=congrArg (fun z=>z[0]?) ag.out;simpa using this
      have t:ws.drop k=y::rest':=by
       have:=congrArg List.tail ag.out
       rw[List.tail_drop,show k-1+1=k by omega]at this
       exact this
      have av:ws[k]? =some y:=by have:=congrArg (fun z=>z[0]?) t;simpa using this
      have bp:=xQ t
      have af:y∈aT aA n x:=aj.out.1
      have az:y<n:=(bR.1 af).1
      have bc:aW aA (x:Int) (y:Int)=1:=(bR.1 af).2
      have bb: ¬(x=y):=by
       intro e;subst e
       have:aW aA (x:Int) (x:Int)=0:=by unfold aW oV;simp
       omega
      have ce:=xQ af
      have ca:wr.cell? ⟨b,off+(k-1),none⟩=some (.int .i64 (x:Int)):=(HM.ext.cells.1 _ _ hb).trans (HS (k-1) x a1)
      have cb:wr.cell? ⟨b,off+k,none⟩=some (.int .i64 (y:Int)):=(HM.ext.cells.1 _ _ hb).trans (HS k y av)
      have p:b<wr.heap.size:=Nat.lt_of_lt_of_le hb HM.ext.sz
      have bt:=xQ a1
      have bv:=xQ av
      clear t af a1 av bc
      obtain⟨z,hz⟩: ∃z,z=ys.getD y 0:=⟨_,rfl⟩
      have HZ:=xQ hz
      have cy:wr.cell? ⟨g,y,none⟩=some (.int .i64 z):=by
       have h1:=(dE (D:=ys) (v:=y) (by rw[o.out];exact az)).1
       rw[←hz]at h1
       have:=(HM.ow 0).cellAt y (by omega);rw[this];simp only[ivs,List.getElem?_map,h1,Option.map_some]
      clear hz
      have v2:=(HM.bk 2).cl 2
      have ai:=(HM.hi 2)
      have i1:(0:Int)≤(k:Int):=by omega
      have i2:(k:Int)<(m:Int):=by omega
      have i3:(k:Int)-1<(m:Int):=by omega
      have i4:((k:Int)-1).toNat=k-1:=by omega
      have i5:(1:Int)≤(k:Int):=by omega
      have i6:(0:Int)≤(y:Int):=by omega
      have i7:(y:Int)<(n:Int):=by omega
      have i8:(0:Int)≤(x:Int):=by omega
      have i9:(x:Int)<(n:Int):=by omega
      have db:(0:Int)≤(k:Int)-1:=by omega
      have cw:IntKind.i64.wrap ((k:Int)-1)=(k:Int)-1:=IntWalk.i64_in _ (by omega)
      go_upto_block 3 with fail
      go_cut [6,8]from 61 to 105 (fun s6 s8 wx=> ∃(ys':List Int) (q':OA) (l' lc':Nat) (sl':List Sl2),s6= .slice q' l' lc'∧s8= .int .i64 (k:Int)∧l'=sl'.length∧l'≤k+1∧aN aA aB ys'=true∧ys'.length=n∧ys'.getD y 0=0∧sl'++(cF ys' y rest').2=(cF xs u ws0).2∧Mem w wx [aJ w.heap.size TI 1 (some ⟨g,0,none⟩) (n) (c0) (ivs (ys')),aJ w.heap.size TSL 2 (q') (l') (lc') (sl'.flatMap aK),aI w.heap.size (gV) TH3 #[aA,aB,.slice (some ⟨g,0,none⟩) n c0],aI w.heap.size (w.heap.size) TH3 #[aA,aB,.slice (some ⟨pb,po,none⟩) n cap]])
      case first=>
       go_wp2
       go_quiet (fail)
       generalize q:World.drewN _ _=wq
       have MQ:=(show Mem w wq [aJ w.heap.size TI 1 (some ⟨g,0,none⟩) (n) (c0) (ivs (ys)),aJ w.heap.size TSL 2 (q5) (l) (lc) (sl.flatMap aK),aI w.heap.size (gV) TH3 #[aA,aB,.slice (some ⟨g,0,none⟩) n c0],aI w.heap.size (w.heap.size) TH3 #[aA,aB,.slice (some ⟨pb,po,none⟩) n cap]]from by rw[←q];exact HM.adv xE)
       have bu:wq.cell? ⟨b,off+(k-1),none⟩=some (.int .i64 (x:Int)):=by rw[←q];simpa using ca
       have ci:wq.cell? ⟨b,off+k,none⟩=some (.int .i64 (y:Int)):=by rw[←q];simpa using cb
       have co:b<wq.heap.size:=by rw[←q];simpa using p
       clear q HM ca cb cy v2 ai p
       by_cases hz0:z=0
       ·have t0:(z !=0)=false:=by simp[hz0]
        have a5:=xQ (show ys.getD y 0=0 by rw[←HZ.out];exact hz0)
        have hr:=xQ (pK (a:=x) (l:=rest') a5.out)
        clear hz0
        go_wp2_with fail
        go_meet
        case rel=>exact⟨ys,q5,l,lc,sl,rfl,rfl,aq.out,by omega,an.out,o.out,a5.out,by rw[←aa.out,hr.out],MQ⟩
       ·have t0:(z !=0)=true:=by simp[hz0]
        have aw: ¬ys.getD y 0=0:=by rw[←HZ.out];exact hz0
        obtain⟨n1,n2,n3⟩:=rJ an (by rw[o.out];exact a4) bd (by rw[o.out];exact ce.out) aw
        have ar:=nQ (a:=x) (l:=rest') aw
        rw[←HZ.out]at n1 n2 n3 ar
        have hr:=xQ ar
        have N1:=xQ n1
        have N2:=xQ n2
        have N3:=xQ n3
        clear n1 n2 n3 hz0 aw ar
        go_wp2_with fail
        go_region_held3 (fun w'=>w'.cell? ⟨b,off+k,none⟩=some (.int .i64 (y:Int))∧w'.cell? ⟨b,off+(k-1),none⟩=some (.int .i64 (x:Int))) (first|(refine⟨?_,?_⟩<;>assumption)|go_keep) (first
         |(refine fN oO (by rfl) _ _ (by rfl) (MQ.adv (by first|exact(Ext.refl _).alloc _|exact Ext.drew ((Ext.refl _).alloc _)|exact xE)) 1 (by rfl) (by rfl) (aK ((y:Int),(x:Int))) (by rfl) (by first|exact dY _ _ _ 1 2 _ (by simp) (by simp) (by simp[maxLen])|exact(dY wq #[(y:Int),(x:Int)] TSL 1 2 _ (by simp) (by simp) (by simp[maxLen])).ext (Ext.drew (Ext.refl _))) (mJ _ _) (by omega) ?_
           intro q7 c7 w6 M6
           have M7:=(show Mem w w6 [aJ w.heap.size TI 1 (some ⟨g,0,none⟩) (n) (c0) (ivs (ys)),aJ w.heap.size TSL 2 (q7) (l+1) (c7) ((sl++ [((y:Int),(x:Int))]).flatMap aK),aI w.heap.size (gV) TH3 #[aA,aB,.slice (some ⟨g,0,none⟩) n c0],aI w.heap.size (w.heap.size) TH3 #[aA,aB,.slice (some ⟨pb,po,none⟩) n cap]]from by have h:=M6;simpa only[List.set_cons_zero,List.set_cons_succ,List.flatMap_append,List.flatMap_cons,List.flatMap_nil,List.append_nil]using h)
           clear M6
           have cq:w6.cell? ⟨b,off+k,none⟩=some (.int .i64 (y:Int)):=(M7.ext.cells.1 _ _ hb).trans (HS k y bv.out)
           have ck:w6.cell? ⟨b,off+(k-1),none⟩=some (.int .i64 (x:Int)):=(M7.ext.cells.1 _ _ hb).trans (HS (k-1) x bt.out)))
        clear MQ bu ci co
        have v2:=(M7.bk 2).cl 2
        have ai:=(M7.hi 2)
        have b1:b<w6.heap.size:=Nat.lt_of_lt_of_le hb M7.ext.sz
        have cy:w6.cell? ⟨g,y,none⟩=some (.int .i64 z):=by
         have h1:=(dE (D:=ys) (v:=y) (by rw[o.out];exact az)).1
         rw[←HZ.out]at h1
         have:=(M7.ow 0).cellAt y (by omega);rw[this];simp only[ivs,List.getElem?_map,h1,Option.map_some]
        have cx:w6.cell? ⟨g,x,none⟩=some (.int .i64 0):=by
         have h1:=(dE (D:=ys) (v:=x) (by rw[o.out];exact a4)).1
         rw[bd.out]at h1
         have:=(M7.ow 0).cellAt x (by omega);rw[this];simp only[ivs,List.getElem?_map,h1,Option.map_some]
        have fy:w6.frozen? ⟨g,y,none⟩=false:=(M7.ow 0).frozenAt y
        have fx:w6.frozen? ⟨g,x,none⟩=false:=(M7.ow 0).frozenAt x
        have a7: ¬(g=gV):=M7.ne (i:=0) (j:=2) (by omega) rfl rfl rfl rfl
        have bq: ¬(gV=g):=fun e=>a7 e.symm
        have bs:w.heap.size≤g:=(M7.lt (i:=0) rfl rfl).1
        have cd: ¬(g=b):=by omega
        have b6: ¬(b=g):=by omega
        have b9: ¬(x=y):=bb
        have cj: ¬(y=x):=fun e=>bb e.symm
        go_upto_region 15 with fail
        go_region
        clear v2 ai b1 cy cx fy fx a7 bq bs cd b6 b9 cj ck cq
        have MX:=(show Mem w ((w6.setCell ⟨g,x,none⟩ (.int .i64 z)).setCell ⟨g,y,none⟩ (.int .i64 0)) [aJ w.heap.size TI 1 (some ⟨g,0,none⟩) (n) (c0) (ivs ((ys.set x z).set y 0)),aJ w.heap.size TSL 2 (q7) (l+1) (c7) ((sl++ [((y:Int),(x:Int))]).flatMap aK),aI w.heap.size (gV) TH3 #[aA,aB,.slice (some ⟨g,0,none⟩) n c0],aI w.heap.size (w.heap.size) TH3 #[aA,aB,.slice (some ⟨pb,po,none⟩) n cap]]from by rw[←dV,←dV];exact(M7.ostore (i:=0) rfl x (.int .i64 z)).ostore (i:=0) rfl y (.int .i64 0))
        have MY:=(MX.adv (Ext.drew (Ext.refl _)))
        generalize a9:World.drew _=w8
        rw[a9]at MY
        clear a9 MX M7
        go_wp2_with fail
        go_meet
        case rel=>exact⟨(ys.set x z).set y 0,q7,l+1,c7,sl++ [((y:Int),(x:Int))],rfl,rfl,by rw[List.length_append,←aq.out];rfl,by omega,N1.out,by rw[N2.out,o.out],N3.out,by rw[←aa.out,hr.out];simp,MY⟩
      case rest=>
       obtain⟨ys',q',l',lc',sl',rfl,rfl,ba,cs,al,ab,am,ae,bf⟩:=hcut
       have h1:=xQ ba
       have h2:=xQ al
       have h3:=xQ ab
       have h4:=xQ am
       have h5:=xQ ae
       have h6:=xQ bf
       clear ba al ab am ae bf HM ca cb cy v2 ai p
       go_wp2
       go_roundw
       case rel=>exact⟨k+1,y,rest',ys',q',l',lc',sl',by omega,by omega,by go_num,rfl,h1.out,by omega,by rw[Nat.add_sub_cancel];exact bp.out,h2.out,h3.out,az,h4.out,aj.out.2,h5.out,h6.out⟩
       case measure=>simp[intOf];omega
     ·obtain rfl:m=k:=by omega
      have f:rest= []:=by
       have h1:=congrArg List.length ag.out
       rw[List.length_drop,hwl.out]at h1
       cases rest with
       |nil=>rfl
       |cons y r=>simp at h1;omega
      subst f
      have bh:Hid (sl=(cF xs u ws0).2):=by show _=_;rw[←aa.out];simp[cF]
      go_wp2
      go_ret
      have b4:=aq.out
      subst b4
      rw[←bh.out]
      exact⟨q5,lc,rfl,HM.ow 1,HM.ext⟩
theorem aLr (aA aB:Int)(p:OA)(n cap:Nat)(xs:List Int)(lq:OA)(m lc u:Nat)(w:World)(hS:Sl w p n cap 1 (ivs xs))(hok:aN aA aB xs=true)(hu:u<n)(hu0:xs.getD u 0=0)
  (hL:Sl w lq m lc 1 (ivs (bE (cY aA n 12 u)))):
  Calls Tryz.prog 176 #[aH aA aB p n cap,.slice lq m lc] w (eY (cF xs u (cY aA n 12 u).tail).2 w):=by
 have hl:=hS.ilen
 subst hl
 have hg:=jI hok
 obtain⟨g1,g2,g3,g4,g5,g6,g7⟩:=bX (cM hok)
 obtain⟨k1,k2,k3⟩:=iP hg hu
 have hm:=hL.ilen
 rw[List.length_map]at hm
 obtain⟨pb,po,rfl,g,h⟩:=hS.rd (by omega)
 obtain⟨b,d,rfl,hb,hc⟩:=hL.rd (by omega)
 have a: ∀(k x:Nat),(cY aA xs.length 12 u)[k]? =some x→w.cell? ⟨b,d+k,none⟩=some (.int .i64 (x:Int)):=by
  intro k x hx
  have hk:=(List.getElem?_eq_some_iff.1 hx).1
  rw[hc k (by omega)]
  simp[ivs,bE,hx]
 have c:=tK aA xs.length 12 u
 have l:w.cell? ⟨b,d,none⟩=some (.int .i64 (u:Int)):=a 0 u (by rw[c];rfl)
 have i:w.cell? ⟨pb,po+u,none⟩=some (.int .i64 0):=by
  rw[h u (by omega)]
  rw[List.getD_eq_getElem?_getD,List.getElem?_eq_getElem hu]at hu0
  simp only[Option.getD_some]at hu0
  simp[ivs,hu,hu0]
 have HV: ∀w',Ext w w'→Calls Tryz.prog 80 #[aH aA aB (some ⟨pb,po,none⟩) xs.length cap] w' fun e w''=>e= .returned (.bool true)∧Ext w' w'':=fun w' hy=>by
  have:=fI aA aB _ xs.length cap xs w' (hS.ext hy)
  rwa[hok]at this
 have HH: ∀w',Calls Tryz.prog 152 #[aH aA aB (some ⟨pb,po,none⟩) xs.length cap,(u:Int)] w' fun e w''=>e= .returned (.bool true)∧Ext w' w'':=fun w'=>by
  have:=iL aA aB (u:Int) (some ⟨pb,po,none⟩) xs.length cap w' (by omega)
  rwa[decide_eq_true (⟨by omega,by omega⟩:0≤(u:Int)∧(u:Int)<xs.length)]at this
 refine aIr aA aB pb po xs.length cap xs b d m lc u (cY aA xs.length 12 u).tail (cY aA xs.length 12 u) w g5 g6 (by omega) (by omega) c hm hb g hok rfl hu hu0 (qS hg 12 u hu) a l i HV HH ?_
  (fun w' hy=>kR aA aB _ xs.length cap xs w' (by omega) (hS.ext hy))
 intro k x y hk hx hy w' hw
 obtain⟨k,rfl⟩: ∃j,k=j+1:=⟨k-1,by omega⟩
 rw[Nat.add_sub_cancel]at hx
 have h2:=rZ hg 12 u k x y hu hx hy
 have f:=aEc hg 12 u x hu (List.mem_of_getElem? hx)
 have h3:=bR.1 h2.2
 have:=aLw aA aB x y _ xs.length cap xs w' (hS.ext hw) hok f h3.1
 rwa[h3.2]at this
def eE (aA aB:Int)(xs:List Int)(l:List Sl2):List Int:=l.foldl (fun ys s=>bG aA aB ys s.1 s.2) xs
theorem aBq (aA aB:Int)(xs:List Int)(l:List Sl2)(s:Sl2):eE aA aB xs (l++ [s])=bG aA aB (eE aA aB xs l) s.1 s.2:=by simp[eE]
theorem xA {aA aB:Int}: ∀(l:List Sl2) (xs:List Int),aN aA aB xs=true→aN aA aB (eE aA aB xs l)=true∧(eE aA aB xs l).length=xs.length:=by
 intro l
 induction l with
 |nil=>intro xs h;exact⟨h,rfl⟩
 |cons s l ih=>
  intro xs h
  have:=ih (bG aA aB xs s.1 s.2) (iB _ _ h)
  exact⟨this.1,by rw[show eE aA aB xs (s::l)=eE aA aB (bG aA aB xs s.1 s.2) l from rfl,this.2,cW]⟩
theorem aBa (aA aB:Int)(p:OA)(n cap:Nat)(xs:List Int)(lq:OA)(m lc:Nat)(l:List Sl2)(w:World)(hlm:Hid (l.length=m))(hlen:Hid (xs.length=n))(hok:Hid (aN aA aB xs=true))(HLs:Hid (Sl w lq m lc 2 (l.flatMap aK)))
  (HK:xC 105 #[aH aA aB p n cap] w fun w' e w''=> ∃q c,e= .returned (aH aA aB q n c)∧w''.ownsRow w'.heap.size TI 1 (.slice q n c) n (ivs xs)∧Ext w' w''):
  Calls Tryz.prog 147 #[aH aA aB p n cap,.slice lq m lc] w (cZ aA aB (eE aA aB xs l) w):=by
 have ar:=HLs.out.bd
 go_enter Tryz.func147,Tryz.ntmps147
 go_wp2_with fail
 refine(HK _ (((Mem.start w).bn TH3 #[aA,aB,.slice p n cap] (w.heap.size)).bn TH3 #[(),(),((),())] (w.heap.size+1)).ext).mono ?_
 rintro e w1 ⟨q0,c0,rfl,y,z⟩
 have M1:=((((Mem.start w).bn TH3 #[aA,aB,.slice p n cap] (w.heap.size)).bn TH3 #[(),(),((),())] (w.heap.size+1)).call z y)
 have s:=M1.hi 1
 have u:=M1.hi 2
 clear z y
 have M2:=(show Mem w _ [aJ w.heap.size TI 1 (q0) (n) (c0) (ivs (xs)),aI w.heap.size (w1.heap.size) TH3 #[aA,aB,.slice q0 n c0],aI w.heap.size (w.heap.size+1) TH3 #[(),(),((),())],aI w.heap.size (w.heap.size) TH3 #[aA,aB,.slice p n cap]]from(M1.bn TH3 #[aA,aB,.slice q0 n c0] w1.heap.size).pick [1,0,2,3] (by decide) rfl)
 clear M1 s u
 obtain⟨gV,o⟩: ∃gV,gV=w1.heap.size:=⟨_,rfl⟩
 rw[←o]at M2
 go_wp2
 rw[←o]
 have av:=xQ o
 clear o
 go_loopw [12] (fun i wr=> ∃(k:Nat) (q:OA) (c:Nat),k≤m∧i= .int .i64 (k:Int)∧Mem w wr [aJ w.heap.size TI 1 (q) (n) (c) (ivs (eE aA aB xs (l.take k))),aI w.heap.size (gV) TH3 #[aA,aB,.slice q n c],aI w.heap.size (w.heap.size+1) TH3 #[(),(),((),())],aI w.heap.size (w.heap.size) TH3 #[aA,aB,.slice p n cap]]) (fun i _=>m-(intOf i).toNat)
 case atStart=>exact⟨0,q0,c0,Nat.zero_le _,rfl,M2⟩
 case round=>
  clear M2
  obtain⟨k,q,c,hk,rfl,hM⟩:=hrel
  have HM:=hM
  clear hM
  by_cases hlt:k<m
  ·obtain⟨b,au,f,t,aj,hx,hb,ad,ai⟩:=aAa (HLs.out.ext HM.ext) hlt
   subst aj
   have i1:(0:Int)≤(k:Int):=by omega
   have i2:(k:Int)<(m:Int):=by omega
   have ak:Hid (eE aA aB xs (l.take (k+1))=bG aA aB (eE aA aB xs (l.take k)) f t):=by show _=_;rw[bD hx,aBq]
   clear hx
   obtain⟨d1,d2⟩:=xA (l.take k) xs hok.out
   have HD:xC 70 #[aH aA aB q n c,dS f t] wr fun w' e w''=> ∃q' c',e= .returned (.tuple #[aH aA aB q' n c',.bool (bA aA aB (eE aA aB xs (l.take k)) f t)])∧w''.ownsRow w'.heap.size TI 1 (.slice q' n c') n (ivs (eE aA aB xs (l.take (k+1))))∧Ext w' w'':=fun w' hx=>by
    refine(wS aA aB f t q n c _ w' ((HM.sq 0).ext hx) d1).mono ?_
    rintro e w'' ⟨q',c',h1,h2,h3⟩
    have hl:(bG aA aB (eE aA aB xs (l.take k)) f t).length=n:=by rw[cW,d2,hlen.out]
    rw[hl]at h1 h2
    exact⟨q',c',h1,by rw[ak.out];exact h2,h3⟩
   clear d1 d2
   have h:gV<wr.heap.size:=(HM.hi 1)
   have a:w.heap.size+1<wr.heap.size:=(HM.hi 2)
   have d:w.heap.size<wr.heap.size:=(HM.hi 3)
   obtain⟨v0,v1,v2⟩:=(HM.bk 1).tri
   go_wp2_with fail
   clear v0 v1 v2 ad ai
   refine(HD _ ((Ext.refl _).alloc _)).mono ?_
   rintro e w6 ⟨q6,c6,rfl,aa,x⟩
   have M6:=((HM.bn TSL #[f,t] (wr.heap.size)).call x aa)
   clear HM h a d x aa
   have an:=M6.hi 1
   have ah:=M6.hi 3
   have af:=M6.hi 4
   have ae:=M6.hi 5
   obtain⟨v0,ao,v1,ap,v2,am⟩:=(M6.bk 3).trif
   go_wp2
   have M7:=((M6.st 3 0 (.int .i64 aA)).st 3 1 (.int .i64 aB))
   have M8:=(M7.st 3 2 (.slice q6 n c6))
   have M9:=(show Mem w (((w6.setCell ⟨gV,0,none⟩ (.int .i64 aA)).setCell ⟨gV,1,none⟩ (.int .i64 aB)).setCell ⟨gV,2,none⟩ (.slice q6 n c6)) [aJ w.heap.size TI 1 (q6) (n) (c6) (ivs (eE aA aB xs (l.take (k+1)))),aI w.heap.size (wr.heap.size) TSL #[f,t],aJ w.heap.size TI 1 (q) (n) (c) (ivs (eE aA aB xs (l.take k))),aI w.heap.size (gV) TH3 #[aA,aB,.slice q6 n c6],aI w.heap.size (w.heap.size+1) TH3 #[(),(),((),())],aI w.heap.size (w.heap.size) TH3 #[aA,aB,.slice p n cap]]from M8)
   generalize g:World.setCell _ _ _=wz
   rw[g]at M9
   clear g M6 M7 M8 v0 ao v1 ap v2 am
   go_roundw
   case rel=>exact⟨k+1,q6,c6,by omega,by go_num,(M9.pick [0,3,4,5] (by decide) rfl)⟩
   case measure=>simp[intOf];omega
  ·obtain rfl:m=k:=by omega
   have ab:Hid (eE aA aB xs (l.take m)=eE aA aB xs l):=by show _=_;rw[←hlm.out,List.take_length]
   rw[ab.out]at HM
   have h:gV<wr.heap.size:=(HM.hi 1)
   have a:w.heap.size+1<wr.heap.size:=(HM.hi 2)
   have d:w.heap.size<wr.heap.size:=(HM.hi 3)
   obtain⟨v0,v1,v2⟩:=(HM.bk 1).tri
   obtain⟨z0,aq,z1,ag,z2,al⟩:=(HM.bk 2).trif
   obtain⟨j,r⟩:=HM.nq 1 2
   go_wp2
   have M6:=((HM.st 2 0 (.int .i64 aA)).st 2 1 (.int .i64 aB))
   have M7:=(M6.st 2 2 (.slice q n c))
   have M8:=(show Mem w (((wr.setCell ⟨w.heap.size+1,0,none⟩ (.int .i64 aA)).setCell ⟨w.heap.size+1,1,none⟩ (.int .i64 aB)).setCell ⟨w.heap.size+1,2,none⟩ (.slice q n c)) [aJ w.heap.size TI 1 (q) (n) (c) (ivs (eE aA aB xs l)),aI w.heap.size (gV) TH3 #[aA,aB,.slice q n c],aI w.heap.size (w.heap.size+1) TH3 #[aA,aB,.slice q n c],aI w.heap.size (w.heap.size) TH3 #[aA,aB,.slice p n cap]]from M7)
   generalize g:World.setCell _ _ _=wz
   rw[g]at M8
   clear g HM M6 M7 v0 v1 v2 z0 aq z1 ag z2 al j r
   obtain⟨y0,y1,y2⟩:=(M8.bk 2).tri
   exact bodyPost_ret (v:=aH aA aB q n c) (by simp[results,Tryz.results147,go_sem, *]) rfl (pV (by exact(xA l xs hok.out).2.trans hlen.out) (M8.ow 0) M8.ext)
theorem wU (aA aB:Int)(p:OA)(n cap:Nat)(xs:List Int)(lq:OA)(m lc:Nat)(l:List Sl2)(w:World)(hlm:l.length=m)(hS:Sl w p n cap 1 (ivs xs))(hok:aN aA aB xs=true)(hL:Sl w lq m lc 2 (l.flatMap aK)):
  Calls Tryz.prog 147 #[aH aA aB p n cap,.slice lq m lc] w (cZ aA aB (eE aA aB xs l) w):=by
 have hl:=hS.ilen
 subst hl
 obtain⟨g1,g2,g3,g4,g5,g6,g7,g8,g9⟩:=bM hok
 exact aBa aA aB p xs.length cap xs lq m lc l w hlm rfl hok hL (fun w' hx=>kR aA aB p xs.length cap xs w' (by omega) (hS.ext hx))
theorem aIv (aA aB:Int)(p:OA)(n cap F:Nat)(fr:List Nat)(xs:List Int)(w:World)(hg:Hid ((aA,n)∈gZ))(hF:Hid (fr.length=F))(hF12:F≤12)(hfr:Hid (∀x∈fr,x<n))
  (HF:xC 174 #[aH aA aB p n cap] w fun w' e w''=> ∃q c,e= .returned (.slice q F c)∧w''.ownsRow w'.heap.size TI 1 (.slice q F c) F (ivs (bE fr))∧Ext w' w'')
  (HWAY:Hid (∀(u:Nat),u<n→ ∀w',Ext w w'→Calls Tryz.prog 175 #[aH aA aB p n cap,(u:Int),(),(-1:Int)] w' (aX (bE (cY aA n 12 u)) w')))
  (HHS:Hid (∀(u:Nat),cT aA fr=some u→ ∀w' q W c,Ext w w'→Sl w' q W c 1 (ivs (bE (cY aA n 12 u)))→Calls Tryz.prog 176 #[aH aA aB p n cap,.slice q W c] w' (eY (cF xs u (cY aA n 12 u).tail).2 w'))):
  Calls Tryz.prog 145 #[aH aA aB p n cap] w (nZ ((cT aA fr).map fun u=>cF xs u (cY aA n 12 u).tail) w):=by
 have ah: ∀(w:World) (a:OA) (n c n' c':Nat),(binOp .eql 22 (.slice a n c) (.slice none n' c')).run Tryz.prog w= .ok (.bool a.isNone) w:=fun w a n c n' c'=>Lib.run_eql_slice_nil w _ _ a n c n' c' Tryz.underlying22
 go_enter Tryz.func145,Tryz.ntmps145
 go_wp2_with fail
 refine(HF _ ((Mem.start w).bn TH3 #[aA,aB,.slice p n cap] (w.heap.size)).ext).mono ?_
 rintro e w1 ⟨q1,c1,rfl,m,y⟩
 have M1:=(((Mem.start w).bn TH3 #[aA,aB,.slice p n cap] (w.heap.size)).call y m)
 have ad:=M1.hi 1
 clear y m
 have M2:=(show Mem w w1 [aJ w.heap.size TI 1 (none) (0) (0) (ivs (bE (jM aA n (cT aA (fr.take 0))))),aJ w.heap.size TI 1 (q1) (F) (c1) (ivs (bE fr)),aI w.heap.size (w.heap.size) TH3 #[aA,aB,.slice p n cap]]from(M1.ownNew (Ext.refl _) (World.ownsRow_nil _ _ TI 1) (Nat.le_refl _)))
 clear M1
 go_wp2
 go_loopw [4,11] (fun v i wr=> ∃(k:Nat) (qb:OA) (l lb:Nat),k≤F∧i= .int .i64 (k:Int)∧v= .slice qb l lb∧l=(jM aA n (cT aA (fr.take k))).length∧qb.isNone=decide (l=0)∧Mem w wr [aJ w.heap.size TI 1 (qb) (l) (lb) (ivs (bE (jM aA n (cT aA (fr.take k))))),aJ w.heap.size TI 1 (q1) (F) (c1) (ivs (bE fr)),aI w.heap.size (w.heap.size) TH3 #[aA,aB,.slice p n cap]]) (fun _ i _=>F-(intOf i).toNat)
 case atStart=>exact⟨0,none,0,0,Nat.zero_le _,rfl,rfl,rfl,rfl,M2⟩
 case round=>
  clear M2
  obtain⟨k,qb,l,lb,hk,rfl,rfl,hl,o,hM⟩:=hrel
  have HM:=hM
  have b:=xQ hl
  have HQ:=xQ o
  have ai:l≤6:=by rw[hl];exact vY hg.out (fun x hx=>hfr.out x (List.mem_of_mem_take hx))
  have t:w.heap.size<wr.heap.size:=(HM.hi 2)
  clear hM hl o
  by_cases hlt:k<F
  ·obtain⟨u,hu⟩: ∃u,fr[k]? =some u:=⟨_,List.getElem?_eq_getElem (by rw[hF.out];exact hlt)⟩
   have d:u<n:=hfr.out u (List.mem_of_getElem? hu)
   obtain⟨gf,rfl,ag,af⟩:=HM.so 1
   have cu:wr.cell? ⟨gf,k,none⟩=some (.int .i64 (u:Int)):=by have:=(HM.ow 1).cellAt k (by omega);rw[this];simp[ivs,bE,hu]
   obtain⟨f,g⟩:=wP hg.out (l:=fr.take k) (fun x hx=>hfr.out x (List.mem_of_mem_take hx)) d
   rw[←bD hu,←b.out]at f g
   obtain⟨k1,k2,k3⟩:=iP hg.out d
   obtain⟨W,hW⟩: ∃W,W=(cY aA n 12 u).length:=⟨_,rfl⟩
   rw[←hW]at k1 k2 f g
   have r:=xQ f
   have ae:=xQ g
   have h:=xQ hW
   have HC:=xQ (fun w' (hx:Ext w w')=>HWAY u d w' hx)
   clear hu f g hW k3
   have i1:(0:Int)≤(k:Int):=by omega
   have i2:(k:Int)<(F:Int):=by omega
   obtain⟨b0,b1,b2⟩:=(HM.bk 2).tri
   go_wp2_with fail
   clear b0 b1 b2 cu
   refine(HC _ HM.ext).mono ?_
   rintro e w5 ⟨q7,c7,rfl,o7,s⟩
   have ab:(bE (cY aA n 12 u)).length=W:=by rw[h.out];simp[bE]
   rw[ab]at o7⊢
   have M5:=(HM.call s o7)
   clear o7 s HM HC t
   obtain⟨g7,rfl,j,z⟩:=M5.some (i:=0) rfl k1
   clear j z
   by_cases h0:l=0
   ·have hn:=xQ (r (.inl h0))
    have hq:qb.isNone=true:=by rw[HQ.out,h0];rfl
    clear h0
    go_wp2
    go_roundw
    case rel=>exact⟨k+1,some ⟨g7,0,none⟩,W,c7,by omega,by go_num,rfl,by rw[hn.out];exact h.out,by simp;omega,by rw[hn.out];exact M5.pick [0,2,3] (by decide) rfl⟩
    case measure=>simp[intOf];omega
   ·have hq:qb.isNone=false:=by rw[HQ.out];simp[h0]
    by_cases h1:W<l
    ·have t1:decide ((W:Int)<(l:Int))=true:=by first|(simp;done)|(simp;omega)
     have hn:=xQ (r (.inr h1))
     have t2:(W:Int)<(l:Int):=by omega
     have t3:decide (W<l)=true:=by simp[h1]
     clear h0
     go_wp2
     go_roundw
     case rel=>exact⟨k+1,some ⟨g7,0,none⟩,W,c7,by omega,by go_num,rfl,by rw[hn.out];exact h.out,by simp;omega,by rw[hn.out];exact M5.pick [0,2,3] (by decide) rfl⟩
     case measure=>simp[intOf];omega
    ·have t1:decide ((W:Int)<(l:Int))=false:=by first|(simp;done)|(simp;omega)
     have hn:=xQ (ae (by omega))
     have t2: ¬((W:Int)<(l:Int)):=by omega
     have t3:decide (W<l)=false:=by simp[h1]
     clear h0
     go_wp2
     go_roundw
     case rel=>exact⟨k+1,qb,l,lb,by omega,by go_num,rfl,by rw[hn.out];exact b.out,HQ.out,by rw[hn.out];exact M5.pick [1,2,3] (by decide) rfl⟩
     case measure=>simp[intOf];omega
  ·obtain rfl:F=k:=by omega
   rw[show fr.take F=fr by rw[←hF.out];exact List.take_length]at HM b
   obtain⟨b0,b1,b2⟩:=(HM.bk 2).tri
   cases hne:cT aA fr with
   |none=>
    have hq:qb.isNone=true:=by rw[HQ.out,b.out,hne];rfl
    have hE:=xQ HM.ext
    clear HM b
    go_wp2
    exact bodyPost_ret (v:= .tuple #[((),()),.bool false]) (by simp[results,Tryz.results145,go_sem, *]) rfl (by rw[hne];exact⟨_,rfl,by have:=hE.out;exact xE⟩)
   |some u=>
    have d:u<n:=hfr.out u ((iH aA fr).2 u hne)
    obtain⟨k1,k2,k3⟩:=iP hg.out d
    rw[hne]at HM b
    have hq:qb.isNone=false:=by rw[HQ.out,b.out];exact decide_eq_false (by show¬(cY aA n 12 u).length=0;omega)
    have HH:=xQ (HHS u hne)
    have aj:=xQ k1
    clear k1 k2 k3
    go_wp2_with fail
    clear b0 b1 b2
    refine(HH _ qb l lb HM.ext (HM.sq 0)).mono ?_
    rintro e w9 ⟨q9,c9,rfl,o9,aa⟩
    have HX:=xQ HM.ext
    clear HM
    go_wp2
    exact bodyPost_ret (v:= .tuple #[.slice q9 (cF xs u (cY aA n 12 u).tail).2.length c9,.bool true]) (by simp[results,Tryz.results145,go_sem, *]) rfl (by rw[hne];exact⟨q9,c9,rfl,bH o9 HX.out.sz,HX.out.trans aa⟩)
theorem aLv (aA aB:Int)(p:OA)(n cap:Nat)(xs:List Int)(w:World)(hS:Sl w p n cap 1 (ivs xs))(hok:aN aA aB xs=true):
  Calls Tryz.prog 145 #[aH aA aB p n cap] w (nZ (gO aA xs) w):=by
 have hl:=hS.ilen
 subst hl
 have hg:=jI hok
 obtain⟨g1,g2,g3,g4,g5,g6,g7,g8,g9⟩:=bM hok
 have b:(bI xs).length≤xs.length:=by unfold bI;exact Nat.le_trans (List.length_filter_le _ _) (by simp)
 refine aIv aA aB p xs.length cap (bI xs).length (bI xs) xs w hg rfl (by omega) (fun x hx=>(jJ hx).1) (fun w' hx=> ?_) (fun u hu w' hx=>aLn aA aB p xs.length cap u xs w' (hS.ext hx) hok hu) (fun u hne w' q W c hx hL=> ?_)
 ·have:=aLt aA aB p xs.length cap xs w' (hS.ext hx)
  rw[if_pos hok,qK]at this
  refine this.mono fun e w'' h1=> ?_
  obtain⟨q,c,h2,h3,h4⟩:=h1
  rw[List.length_map]at h2 h3
  exact⟨q,c,h2,h3,h4⟩
 ·obtain⟨hu,a⟩:=jJ ((iH aA _).2 u hne)
  exact aLr aA aB p xs.length cap xs q W c u w' (hS.ext hx) hok hu a hL
end Go.Proofs.YtgnkoffndhmhpaaGreatDoor
