/-
  Texts of this proof, packed (@packed).
-/
import Derived.Test.YtgnkoffndhmhpaaGreatDoorR9
import Derived.Test.YtgnkoffndhmhpaaGreatDoorR10
namespace Go.Proofs.YtgnkoffndhmhpaaGreatDoor
open Go.RowKit
set_option linter.unusedVariables false
set_option linter.unusedSimpArgs false
set_option maxHeartbeats 8000000
set_option maxRecDepth 100000
theorem kW (a b:Int): ∀u∈aM (a,b),u.oneCell'=true:=by
 intro u hu
 simp[aM]at hu
 rcases hu with rfl|rfl<;>rfl
theorem aFg (aA aB:Int)(pb po:Nat)(n cap:Nat)(xs:List Int)(b off m c2 u:Nat)(ws0 ws:List Nat)(w:World)(hn0:4≤n)(hn:n≤12)(hm0:0<m)(hm:m≤12)(HWS:Hid (ws=u::ws0))(hwl:Hid (ws.length=m))(hb:b<w.heap.size)(hpb:pb<w.heap.size)
  (hok:Hid (aP aA aB xs=true))(hlen:Hid (xs.length=n))(hu:u<n)(hu0:Hid (xs.getD u 0=0))(hst:Hid (kU aA n u ws0))
  (HS:Hid (∀(k x:Nat),ws[k]? =some x→w.cell? ⟨b,off+k,none⟩=some (.int .i64 (x:Int)))) (cu0:w.cell? ⟨b,off,none⟩=some (.int .i64 (u:Int))) (cp0:w.cell? ⟨pb,po+u,none⟩=some (.int .i64 0))
  (HW:xB 181 #[aI aA aB (some ⟨pb,po,none⟩) n cap,.slice (some ⟨b,off,none⟩) m c2] w true)
  (HL:xC 104 #[aI aA aB (some ⟨pb,po,none⟩) n cap] w fun w' e w''=> ∃q c,e= .returned (aI aA aB q n c)∧w''.ownsRow w'.heap.size TI 1 (.slice q n c) n (ivs xs)∧Ext w' w''):
  Calls Tryz.prog 155 #[aI aA aB (some ⟨pb,po,none⟩) n cap,.slice (some ⟨b,off,none⟩) m c2] w (fR (bW xs u ws0).2 w):=by
 have j1:(0:Int)≤(u:Int):=by omega
 have j2:(u:Int)<(n:Int):=by omega
 have j3:(0:Int)<(m:Int):=by omega
 go_enter Tryz.func155,Tryz.ntmps155
 go_wp2
 have ME:=xQ (((((Mem.start w).blkNew TH3 #[aA,aB,.slice (some ⟨pb,po,none⟩) n cap] (w.heap.size) (by simp))).made0 TSL 2 (w.heap.size+1) (by simp)))
 have X0:=xQ (show Ext w ((w.alloc (.cells #[aA,aB,.slice (some ⟨pb,po,none⟩) n cap] TH3)).alloc (.cells #[] TSL))from ME.out.ext)
 refine cS (gl [gEq (.agg #[aA,aB,.slice (some ⟨pb,po,none⟩) n cap]),gEq (.slice (some ⟨b,off,none⟩) m c2),gEq (.bool true),gEq (.bool false),gEq (.bool false),gEq (.pointer (some ⟨w.heap.size,2,none⟩)),gEq (.slice (some ⟨pb,po,none⟩) n cap),gEq (.slice (some ⟨b,off,none⟩) m c2),gEq (.pointer (some ⟨b,off,none⟩)),gEq (u:Int),gEq (.pointer (some ⟨pb,po+u,none⟩)),gEq (.int .i64 0),gEq (.bool false),gEq (.bool false)]) 14 (by kernel_rfl) rfl (by kernel_rfl) (by kernel_rfl) (by kernel_rfl) (eG (aK (aH _) (aK (aH _) (aK (aH _) (aK (aH _) (aK (aH _) (aK (aH _) (aK (aH _) (aK (aH _) (aK (aH _) (aK (aH _) (aK (aH _) (aK (aH _) (aK (aH _) (aK (aH _) (fK)))))))))))))))) (k:=14) (by kernel_rfl) (by decide) (ls:= [(0,some 12),(1,some 13),(2,some 14),(3,some 15),(4,some 16),(5,some 17),(6,some 18),(7,some 19),(8,some 20),(9,some 21),(10,some 22),(11,some 23),(12,some 24),(13,some 25)]) (by kernel_rfl) (ir:= [0,1,2,3,4,5,6,7,8,9,10,11,12,13]) (by kernel_rfl) ?steps (tl:=#[true,true,true,true,true,true,true,true,true,true,true,true,true,true]) (by kernel_rfl) ?fin
 case steps=>
  refine sC [] rfl (fun wi hx=> ?_) ?_
  ·intro K hK
   have hX:Ext ((w.alloc (.cells #[aA,aB,.slice (some ⟨pb,po,none⟩) n cap] TH3)).alloc (.cells #[] TSL)) wi:=by exact .trans (.drew (.refl _)) hx
   obtain⟨cl0,cl1,cl2⟩:=(((ME.out.blk (i:=1) rfl).ext hX)).tri
   go_simp
   exact hK _ _ ⟨.agg #[aA,aB,.slice (some ⟨pb,po,none⟩) n cap],rfl,rfl,Ext.refl _⟩
  refine sC [] rfl (fun wi hx=> ?_) ?_
  ·intro K hK
   go_simp
   exact hK _ _ ⟨.slice (some ⟨b,off,none⟩) m c2,rfl,rfl,Ext.refl _⟩
  refine sC [(0,some 12),(1,some 13)] rfl (fun wi hx=> ?_) ?_
  ·intro v0 h0 v1 h1 K hK
   obtain rfl:=h0
   obtain rfl:=h1
   have hX:Ext w wi:=by exact .trans (.drew (.alloc (.alloc (.refl _) _) _)) hx
   go_wp2_with fail
   refine(HW.out _ hX).mono ?_
   rintro e w5 ⟨rfl,hx5⟩
   go_simp
   exact hK _ _ ⟨.bool true,rfl,rfl,hx5⟩
  refine sC [(2,some 14)] rfl (fun wi hx=> ?_) ?_
  ·intro v2 h2 K hK
   obtain rfl:=h2
   go_simp
   exact hK _ _ ⟨.bool false,rfl,rfl,Ext.refl _⟩
  refine sC [(3,some 15)] rfl (fun wi hx=> ?_) ?_
  ·intro v3 h3 K hK
   obtain rfl:=h3
   go_simp
   exact hK _ _ ⟨.bool false,rfl,rfl,Ext.refl _⟩
  refine sC [(4,some 16)] rfl (fun wi hx=> ?_) ?_
  ·intro v4 h4 K hK
   obtain rfl:=h4
   go_simp
   exact hK _ _ ⟨.pointer (some ⟨w.heap.size,2,none⟩),rfl,rfl,Ext.refl _⟩
  refine sC [(4,some 16),(5,some 17)] rfl (fun wi hx=> ?_) ?_
  ·intro v4 h4 v5 h5 K hK
   obtain rfl:=h4
   obtain rfl:=h5
   have hX:Ext ((w.alloc (.cells #[aA,aB,.slice (some ⟨pb,po,none⟩) n cap] TH3)).alloc (.cells #[] TSL)) wi:=by exact .trans (.drew (.refl _)) hx
   have cl0:wi.cell? ⟨w.heap.size,2,none⟩=some (.slice (some ⟨pb,po,none⟩) n cap):=((ME.out.blk (i:=1) rfl).ext hX).cell 2
   go_simp
   exact hK _ _ ⟨.slice (some ⟨pb,po,none⟩) n cap,rfl,rfl,Ext.refl _⟩
  refine sC [(4,some 16)] rfl (fun wi hx=> ?_) ?_
  ·intro v4 h4 K hK
   obtain rfl:=h4
   go_simp
   exact hK _ _ ⟨.slice (some ⟨b,off,none⟩) m c2,rfl,rfl,Ext.refl _⟩
  refine sC [(4,some 16),(7,some 19)] rfl (fun wi hx=> ?_) ?_
  ·intro v4 h4 v7 h7 K hK
   obtain rfl:=h4
   obtain rfl:=h7
   go_simp
   exact hK _ _ ⟨.pointer (some ⟨b,off,none⟩),rfl,rfl,Ext.refl _⟩
  refine sC [(4,some 16),(8,some 20)] rfl (fun wi hx=> ?_) ?_
  ·intro v4 h4 v8 h8 K hK
   obtain rfl:=h4
   obtain rfl:=h8
   have hX:Ext ((w.alloc (.cells #[aA,aB,.slice (some ⟨pb,po,none⟩) n cap] TH3)).alloc (.cells #[] TSL)) wi:=by exact .trans (.drew (.refl _)) hx
   have cl0:wi.cell? ⟨b,off,none⟩=some (.int .i64 (u:Int)):=(X0.out.trans hX).cells.1 _ _ hb |>.trans cu0
   go_simp
   exact hK _ _ ⟨.int .i64 (u:Int),rfl,rfl,Ext.refl _⟩
  refine sC [(4,some 16),(6,some 18),(9,some 21)] rfl (fun wi hx=> ?_) ?_
  ·intro v4 h4 v6 h6 v9 h9 K hK
   obtain rfl:=h4
   obtain rfl:=h6
   obtain rfl:=h9
   go_simp
   exact hK _ _ ⟨.pointer (some ⟨pb,po+u,none⟩),rfl,rfl,Ext.refl _⟩
  refine sC [(4,some 16),(10,some 22)] rfl (fun wi hx=> ?_) ?_
  ·intro v4 h4 v10 h10 K hK
   obtain rfl:=h4
   obtain rfl:=h10
   have hX:Ext ((w.alloc (.cells #[aA,aB,.slice (some ⟨pb,po,none⟩) n cap] TH3)).alloc (.cells #[] TSL)) wi:=by exact .trans (.drew (.refl _)) hx
   have cl0:wi.cell? ⟨pb,po+u,none⟩=some (.int .i64 0):=(X0.out.trans hX).cells.1 _ _ hpb |>.trans cp0
   go_simp
   exact hK _ _ ⟨.int .i64 0,rfl,rfl,Ext.refl _⟩
  refine sC [(4,some 16),(11,some 23)] rfl (fun wi hx=> ?_) ?_
  ·intro v4 h4 v11 h11 K hK
   obtain rfl:=h4
   obtain rfl:=h11
   go_simp
   exact hK _ _ ⟨.bool false,rfl,rfl,Ext.refl _⟩
  refine sC [(4,some 16),(12,some 24)] rfl (fun wi hx=> ?_) StepsL.nil
  ·intro v4 h4 v12 h12 K hK
   obtain rfl:=h4
   obtain rfl:=h12
   go_simp
   exact hK _ _ ⟨.bool false,rfl,rfl,Ext.refl _⟩
 case fin=>
  intro wi hx v0 h0 v1 h1 v2 h2 v3 h3 v4 h4 v5 h5 v6 h6 v7 h7 v8 h8 v9 h9 v10 h10 v11 h11 v12 h12 v13 h13
  obtain rfl:=h0
  obtain rfl:=h1
  obtain rfl:=h2
  obtain rfl:=h3
  obtain rfl:=h4
  obtain rfl:=h5
  obtain rfl:=h6
  obtain rfl:=h7
  obtain rfl:=h8
  obtain rfl:=h9
  obtain rfl:=h10
  obtain rfl:=h11
  obtain rfl:=h12
  obtain rfl:=h13
  refine wpAny_done (by kernel_rfl) ?_ _
  try simp only[Act.put,List.setIfInBounds_toArray,List.set_cons_zero,List.set_cons_succ]
  have hX:Ext ((w.alloc (.cells #[aA,aB,.slice (some ⟨pb,po,none⟩) n cap] TH3)).alloc (.cells #[] TSL)) wi:=hx.of_drew
  have M1:=xQ (ME.out.adv hX)
  clear ME
  have lt1_1:=M1.out.hi 1
  clear X0 hx hX
  obtain⟨c0,c1,c2⟩:=((M1.out.blk (i:=1) rfl)).tri
  go_wp2_with fail
  clear c0 c1 c2
  refine(HL.out _ M1.out.ext).mono ?_
  rintro e w2 ⟨q0,c0,rfl,ho2,hx2⟩
  have M2:=xQ ((M1.out).call hx2 ho2)
  clear M1 lt1_1
  have lt2_2:=M2.out.hi 2
  clear hx2 ho2 HW
  have hch:=xQ (((M2.out).blkNew TH3 #[aA,aB,.slice q0 n c0] (w2.heap.size) (by simp)))
  go_wp2
  go_loopw [5,7] (fun v i wr=> ∃(k x:Nat) (rest:List Nat) (ys:List Int) (q:OA) (c:Nat) (q5:OA) (l lc:Nat) (sl:List Sl2),1≤k∧k≤m∧i= .int .i64 k∧v= .slice q5 l lc∧l=sl.length∧l≤k∧ws.drop (k-1)=x::rest∧aP aA aB ys=true∧ys.length=n∧x<n∧ys.getD x 0=0∧kU aA n x rest∧sl++(bW ys x rest).2=(bW xs u ws0).2∧Mem w wr [aL w.heap.size (w2.heap.size) TH3 #[aA,aB,.slice q n c],aJ w.heap.size TI 1 (q) (n) (c) (ivs ys),aJ w.heap.size TSL 2 (q5) (l) (lc) (sl.flatMap aM),aL w.heap.size (w.heap.size) TH3 #[aA,aB,.slice (some ⟨pb,po,none⟩) n cap]]) (fun _ i _=>m-(intOf i).toNat)
  case atStart=>exact⟨1,u,ws0,xs,q0,c0,some ⟨w.heap.size+1,0,none⟩,0,0,[],Nat.le_refl _,by omega,rfl,rfl,rfl,by omega,by rw[HWS.out];rfl,hok.out,hlen.out,hu,hu0.out,hst.out,rfl,hch.out⟩
  case round=>
   clear hch M2 lt2_2
   obtain⟨k,x,rest,ys,q,c,q5,l,lc,sl,hk1,hk,rfl,rfl,hl,hlk,hdr,hoky,hly,hxn,hx0,hsto,hres,hM⟩:=hrel
   have HDR:=xQ hdr
   have HOKY:=xQ hoky
   have HLY:=xQ hly
   have HX0:=xQ hx0
   have HSTO:=xQ hsto
   have HRES:=xQ hres
   have HSL:=xQ hl
   have HM:=xQ hM
   clear hdr hoky hly hx0 hsto hres hM hl
   by_cases hlt:k<m
   ·obtain⟨y,rest',hrest⟩: ∃y rest',rest=y::rest':=by
     have h1:=congrArg List.length HDR.out
     rw[List.length_drop,hwl.out]at h1
     cases rest with
     |nil=>simp at h1;omega
     |cons y r=>exact⟨y,r,rfl⟩
    subst hrest
    have hyx:ws[k-1]? =some x:=by have:=congrArg (fun z=>z[0]?) HDR.out;simpa using this
    have hdr2:ws.drop k=y::rest':=by
     have:=congrArg List.tail HDR.out
     rw[List.tail_drop,show k-1+1=k by omega]at this
     exact this
    have hyy:ws[k]? =some y:=by have:=congrArg (fun z=>z[0]?) hdr2;simpa using this
    have HDR2:=xQ hdr2
    have hby:y∈aS aA n x:=HSTO.out.1
    have hyn:y<n:=(bM.1 hby).1
    have HBY:=xQ hby
    have hxx:=HM.out.ext
    have ca:wr.cell? ⟨b,off+(k-1),none⟩=some (.int .i64 (x:Int)):=(hxx.cells.1 _ _ hb).trans (HS.out (k-1) x hyx)
    have cb:wr.cell? ⟨b,off+k,none⟩=some (.int .i64 (y:Int)):=(hxx.cells.1 _ _ hb).trans (HS.out k y hyy)
    have hb':b<wr.heap.size:=Nat.lt_of_lt_of_le hb hxx.sz
    clear hdr2 hby hyx hyy hxx
    have i1:(0:Int)≤(k:Int):=by omega
    have i2:(k:Int)<(m:Int):=by omega
    have i3:(k:Int)-1<(m:Int):=by omega
    have i4:((k:Int)-1).toNat=k-1:=by omega
    have i5:(1:Int)≤(k:Int):=by omega
    go_wp2
    refine cS (gl [gEq (.slice (some ⟨b,off,none⟩) m c2),gEq (k:Int),gEq (.pointer (some ⟨b,off+k,none⟩)),gEq (y:Int),gEq (.slice (some ⟨b,off,none⟩) m c2),gEq (k:Int),gEq ((k:Int)-1:Int),gEq (.pointer (some ⟨b,off+(k-1),none⟩)),gEq (x:Int),gEq (.agg #[(y:Int),(x:Int)]),aJi (wr.heap.size) TSL #[(),()]]) 11 (by kernel_rfl) rfl (by kernel_rfl) (by kernel_rfl) (by kernel_rfl) (eG (aK (aH _) (aK (aH _) (aK (aH _) (aK (aH _) (aK (aH _) (aK (aH _) (aK (aH _) (aK (aH _) (aK (aH _) (aK (aH _) (aK (aEk _ _ _) (fK))))))))))))) (k:=12) (by kernel_rfl) (by decide) (ls:= [(0,some 35),(1,some 36),(2,some 37),(3,some 38),(4,some 39),(5,some 40),(6,some 41),(7,some 42),(8,some 43),(9,some 44),(10,some 8)]) (by kernel_rfl) (ir:= [0,1,2,3,4,5,6,7,8,9,10]) (by kernel_rfl) ?steps (tl:=#[true,true,true,true,true,true,true,true,true,true,true,false]) (by kernel_rfl) ?fin
    case steps=>
     refine sC [] rfl (fun wi hx=> ?_) ?_
     ·intro K hK
      go_simp
      exact hK _ _ ⟨.slice (some ⟨b,off,none⟩) m c2,rfl,rfl,Ext.refl _⟩
     refine sC [] rfl (fun wi hx=> ?_) ?_
     ·intro K hK
      go_simp
      exact hK _ _ ⟨.int .i64 (k:Int),rfl,rfl,Ext.refl _⟩
     refine sC [(0,some 35),(1,some 36)] rfl (fun wi hx=> ?_) ?_
     ·intro v0 h0 v1 h1 K hK
      obtain rfl:=h0
      obtain rfl:=h1
      go_simp
      exact hK _ _ ⟨.pointer (some ⟨b,off+k,none⟩),rfl,rfl,Ext.refl _⟩
     refine sC [(2,some 37)] rfl (fun wi hx=> ?_) ?_
     ·intro v2 h2 K hK
      obtain rfl:=h2
      have hX:Ext wr wi:=by exact .trans (.drew (.refl _)) hx
      have cl0:wi.cell? ⟨b,off+k,none⟩=some (.int .i64 (y:Int)):=(hX.cells.1 _ _ hb').trans cb
      go_simp
      exact hK _ _ ⟨.int .i64 (y:Int),rfl,rfl,Ext.refl _⟩
     refine sC [] rfl (fun wi hx=> ?_) ?_
     ·intro K hK
      go_simp
      exact hK _ _ ⟨.slice (some ⟨b,off,none⟩) m c2,rfl,rfl,Ext.refl _⟩
     refine sC [] rfl (fun wi hx=> ?_) ?_
     ·intro K hK
      go_simp
      exact hK _ _ ⟨.int .i64 (k:Int),rfl,rfl,Ext.refl _⟩
     refine sC [(5,some 40)] rfl (fun wi hx=> ?_) ?_
     ·intro v5 h5 K hK
      obtain rfl:=h5
      have hwr:IntKind.i64.wrap ((k:Int)-1)=(k:Int)-1:=IntWalk.i64_in _ (by omega)
      go_simp
      exact hK _ _ ⟨.int .i64 ((k:Int)-1),rfl,rfl,Ext.refl _⟩
     refine sC [(4,some 39),(6,some 41)] rfl (fun wi hx=> ?_) ?_
     ·intro v4 h4 v6 h6 K hK
      obtain rfl:=h4
      obtain rfl:=h6
      go_simp
      exact hK _ _ ⟨.pointer (some ⟨b,off+(k-1),none⟩),rfl,rfl,Ext.refl _⟩
     refine sC [(7,some 42)] rfl (fun wi hx=> ?_) ?_
     ·intro v7 h7 K hK
      obtain rfl:=h7
      have hX:Ext wr wi:=by exact .trans (.drew (.refl _)) hx
      have cl0:wi.cell? ⟨b,off+(k-1),none⟩=some (.int .i64 (x:Int)):=(hX.cells.1 _ _ hb').trans ca
      go_simp
      exact hK _ _ ⟨.int .i64 (x:Int),rfl,rfl,Ext.refl _⟩
     refine sC [(3,some 38),(8,some 43)] rfl (fun wi hx=> ?_) ?_
     ·intro v3 h3 v8 h8 K hK
      obtain rfl:=h3
      obtain rfl:=h8
      go_simp
      exact hK _ _ ⟨.agg #[(y:Int),(x:Int)],rfl,rfl,Ext.refl _⟩
     refine sC [] rfl (fun wi hx=> ?_) StepsL.nil
     ·intro K hK
      go_simp
      exact hK _ _ ⟨.pointer (some ⟨wi.heap.size,0,none⟩),rfl,⟨wi.heap.size,rfl,by have:=hx.sz;simp at this;omega,Blk.new _ _ _⟩,(Ext.refl _).alloc _⟩
    case fin=>
     intro wi hx v0 h0 v1 h1 v2 h2 v3 h3 v4 h4 v5 h5 v6 h6 v7 h7 v8 h8 v9 h9 v10 h10
     obtain rfl:=h0
     obtain rfl:=h1
     obtain rfl:=h2
     obtain rfl:=h3
     obtain rfl:=h4
     obtain rfl:=h5
     obtain rfl:=h6
     obtain rfl:=h7
     obtain rfl:=h8
     obtain rfl:=h9
     obtain⟨g10,rfl,hg10,B10⟩:=h10
     have hX:Ext wr wi:=hx.of_drew
     have M1:=xQ (show Mem w wi [aL w.heap.size (g10) TSL #[(),()],aL w.heap.size (w2.heap.size) TH3 #[aA,aB,.slice q n c],aJ w.heap.size TI 1 (q) (n) (c) (ivs ys),aJ w.heap.size TSL 2 (q5) (l) (lc) (sl.flatMap aM),aL w.heap.size (w.heap.size) TH3 #[aA,aB,.slice (some ⟨pb,po,none⟩) n cap]]from HM.out.blkOf hX B10 hg10)
     clear HM
     have lt1_0:=M1.out.hi 0
     have lt1_1:=M1.out.hi 1
     have lt1_4:=M1.out.hi 4
     clear hx hX ca cb B10 hg10
     try simp only[Act.put,List.setIfInBounds_toArray,List.set_cons_zero,List.set_cons_succ]
     have z0:wi.cell? ⟨g10,0,none⟩=some (.int .i64 0):=(M1.out.blk (i:=0) rfl).cell 0
     have zf0:wi.frozen? ⟨g10,0,none⟩=false:=(M1.out.blk (i:=0) rfl).frozen 0
     have z1:wi.cell? ⟨g10,1,none⟩=some (.int .i64 0):=(M1.out.blk (i:=0) rfl).cell 1
     have zf1:wi.frozen? ⟨g10,1,none⟩=false:=(M1.out.blk (i:=0) rfl).frozen 1
     refine wpAny_ready (rs:= [11]) (by kernel_rfl) (by simp) ?_
     refine AllReady.cons rfl (fun K hK=> ?_) AllReady.nil
     go_simp
     refine hK _ _ ?_
     clear hK K z0 zf0 z1 zf1
     have M2:=xQ (((((M1.out).st 0 0 (.int .i64 (y:Int)))).st 0 1 (.int .i64 (x:Int))))
     generalize ((wi.setCell ⟨g10,0,none⟩ (.int .i64 (y:Int))).setCell ⟨g10,1,none⟩ (.int .i64 (x:Int)))=w4 at M2⊢
     clear M1 lt1_0 lt1_1 lt1_4
     have lt2_0:=M2.out.hi 0
     have lt2_1:=M2.out.hi 1
     have lt2_4:=M2.out.hi 4
     refine wpAny_done (by kernel_rfl) ?_ _
     try simp only[Act.put,List.setIfInBounds_toArray,List.set_cons_zero,List.set_cons_succ]
     have ne0_1a: ¬(g10=w2.heap.size):=M2.out.ne (i:=0) (j:=1) (by omega) rfl rfl rfl rfl
     have ne0_1b: ¬(w2.heap.size=g10):=fun h=>ne0_1a h.symm
     obtain⟨n0,n1,n2⟩:=((M2.out.blk (i:=1) rfl)).tri
     have s0:w4.cell? ⟨g10,0,none⟩=some (.int .i64 (y:Int)):=(M2.out.blk (i:=0) rfl).cell 0
     have s1:w4.cell? ⟨g10,1,none⟩=some (.int .i64 (x:Int)):=(M2.out.blk (i:=0) rfl).cell 1
     have HD:=xQ (fun w' (hx:Ext w4 w')=>jW aA aB (y:Int) (x:Int) q n c ys w' (((M2.out.sl (i:=2) rfl)).ext hx) HOKY.out)
     go_wp2_with fail
     refine(HD.out _ (by exact .refl _)).mono ?_
     rintro e w5 ⟨q6,c6,rfl,ho5,hx5⟩
     have hl6:(bE aA aB ys (y:Int) (x:Int)).length=n:=by rw[cN,HLY.out]
     rw[hl6]at ho5⊢
     clear hl6 HD ne0_1a ne0_1b n0 n1 n2 s0 s1
     have M3:=xQ ((M2.out).call hx5 ho5)
     clear M2 lt2_0 lt2_1 lt2_4
     have lt3_1:=M3.out.hi 1
     have lt3_2:=M3.out.hi 2
     have lt3_5:=M3.out.hi 5
     clear hx5 ho5
     by_cases hy0:ys.getD y 0=0
     ·have hm:bC aA aB ys (y:Int) (x:Int)=false:=by have:=aGt HOKY.out (by rw[HLY.out];exact hxn) HX0.out (by rw[HLY.out];exact HBY.out) hy0;exact this
      have hr:=xQ (nO (a:=x) (l:=rest') hy0)
      have HY0:=xQ hy0
      clear hy0
      rw[hm]
      clear hm
      go_wp2
      go_roundw
      case rel=>exact⟨k+1,y,rest',ys,q,c,q5,l,lc,sl,by omega,by omega,by go_num,rfl,HSL.out,by omega,by rw[Nat.add_sub_cancel];exact HDR2.out,HOKY.out,HLY.out,hyn,HY0.out,HSTO.out.2,by rw[←HRES.out,hr.out],((((M3.out).blkNew TH3 #[aA,aB,.slice q6 n c6] (w5.heap.size) (by simp))).pick [3,4,5,6] (by decide) rfl)⟩
      case measure=>simp[intOf];omega
     ·obtain⟨hm,hd⟩:=wC HOKY.out (by rw[HLY.out];exact hxn) HX0.out (by rw[HLY.out];exact HBY.out) hy0
      obtain⟨n1,n2,n3⟩:=pM HOKY.out (by rw[HLY.out];exact hxn) HX0.out (by rw[HLY.out];exact HBY.out) hy0
      have hr:=xQ (lW (a:=x) (l:=rest') hy0)
      rw[hd]at M3
      rw[hm]
      clear hm hd hy0
      generalize (ys.set x (ys.getD y 0)).set y 0=zs at*
      have N1:=xQ n1
      have N2:=xQ n2
      have N3:=xQ n3
      clear n1 n2 n3
      have ne0_1a: ¬(g10=w2.heap.size):=M3.out.ne (i:=1) (j:=2) (by omega) rfl rfl rfl rfl
      have ne0_1b: ¬(w2.heap.size=g10):=fun h=>ne0_1a h.symm
      obtain⟨n0,nf0,n1,nf1,n2,nf2⟩:=((M3.out.blk (i:=2) rfl)).trif
      have s0:w5.cell? ⟨g10,0,none⟩=some (.int .i64 (y:Int)):=(M3.out.blk (i:=1) rfl).cell 0
      have s1:w5.cell? ⟨g10,1,none⟩=some (.int .i64 (x:Int)):=(M3.out.blk (i:=1) rfl).cell 1
      go_wp2_with (at_builtin;go_loud (refine bX oN rfl _ _ rfl ((((((((((M3.out).store (i:=2) rfl 0 (.int .i64 aA))).store (i:=2) rfl 1 (.int .i64 aB))).store (i:=2) rfl 2 (.slice q6 n c6))).blkNew TH3 #[aA,aB,.slice q6 n c6] (w5.heap.size) (by simp))).adv ((Ext.refl _).alloc (.cells #[(y:Int),(x:Int)] TSL))) 5 rfl rfl (aM ((y:Int),(x:Int))) rfl (dM _ _ _ 1 2 _ (by simp) (by simp) (by simp[maxLen])) (kW _ _) (by omega) ?_;intro q7 c7 w6 M6))
      clear ne0_1a ne0_1b n0 nf0 n1 nf1 n2 nf2 s0 s1
      have M7:=xQ (show Mem w w6 [aL w.heap.size (w5.heap.size) TH3 #[aA,aB,.slice q6 n c6],aJ w.heap.size TI 1 (q6) (n) (c6) (ivs zs),aL w.heap.size (g10) TSL #[(y:Int),(x:Int)],aL w.heap.size (w2.heap.size) TH3 #[aA,aB,.slice q6 n c6],aJ w.heap.size TI 1 (q) (n) (c) (ivs ys),aJ w.heap.size TSL 2 (q7) (l+1) (c7) (sl.flatMap aM++aM ((y:Int),(x:Int))),aL w.heap.size (w.heap.size) TH3 #[aA,aB,.slice (some ⟨pb,po,none⟩) n cap]]from M6)
      clear M6 M3
      have hfl:Hid (sl.flatMap aM++aM ((y:Int),(x:Int))=(sl++ [((y:Int),(x:Int))]).flatMap aM):=by show _=_;rw[List.flatMap_append];simp
      rw[hfl.out]at M7
      clear hfl
      go_wp2
      go_roundw
      case rel=>exact⟨k+1,y,rest',zs,q6,c6,q7,l+1,c7,sl++ [((y:Int),(x:Int))],by omega,by omega,by go_num,rfl,by rw[List.length_append,←HSL.out];rfl,by omega,by rw[Nat.add_sub_cancel];exact HDR2.out,N1.out,by rw[N2.out,HLY.out],hyn,N3.out,HSTO.out.2,by rw[←HRES.out,hr.out];simp,((M7.out).pick [3,1,5,6] (by decide) rfl)⟩
      case measure=>simp[intOf];omega
   ·obtain rfl:m=k:=by omega
    have hrest:rest= []:=by
     have h1:=congrArg List.length HDR.out
     rw[List.length_drop,hwl.out]at h1
     cases rest with
     |nil=>rfl
     |cons y r=>simp at h1;omega
    subst hrest
    have hfin:Hid (sl=(bW xs u ws0).2):=by show _=_;rw[←HRES.out];simp[bW]
    go_wp2
    go_ret
    have hl2:=HSL.out
    subst hl2
    rw[←hfin.out]
    exact⟨q5,lc,rfl,HM.out.own (i:=2) rfl,HM.out.ext⟩
theorem gU {aA:Int}{n:Nat}(hg:(aA,n)∈fY){u:Nat}(hu:u<n):0<(cR aA n 12 u).length∧(cR aA n 12 u).length≤6∧((cR aA n 12 u).length:Int)=aZ aA u 0+1:=by
 have g:=bO hg hu
 have h:=kK hg 12 u hu (by have:=g.2.1;omega)
 have:=g.1;have:=g.2.1
 omega
theorem wN {aA aB:Int}{xs:List Int}(hok:aP aA aB xs=true){x y:Nat}(hx:x<xs.length)(hy:y∈aS aA xs.length x):cX aA aB xs (x:Int) (y:Int)=1:=by
 obtain⟨h1,h2⟩:=bM.1 hy
 unfold cX
 rw[if_pos ⟨hok,⟨by omega,by omega⟩,by omega,by omega⟩]
 exact h2
theorem sE (aA aB:Int)(p:OA)(n cap:Nat)(xs:List Int)(lq:OA)(m lc u:Nat)(w:World)(hS:Sl w p n cap 1 (ivs xs))(hok:aP aA aB xs=true)(hu:u<n)(hu0:xs.getD u 0=0)
  (hL:Sl w lq m lc 1 (ivs (bD (cR aA n 12 u)))):
  Calls Tryz.prog 155 #[aI aA aB p n cap,.slice lq m lc] w (fR (bW xs u (cR aA n 12 u).tail).2 w):=by
 have hl:=hS.ilen
 subst hl
 have hg:=iL hok
 obtain⟨g1,g2,g3,g4,g5,g6,g7⟩:=bR (cF hok)
 obtain⟨k1,k2,k3⟩:=gU hg hu
 have hm:=hL.ilen
 rw[List.length_map]at hm
 obtain⟨pb,po,rfl,hpb,hpc⟩:=hS.rd (by omega)
 obtain⟨b,off,rfl,hb,hc⟩:=hL.rd (by omega)
 have hcell: ∀(k x:Nat),(cR aA xs.length 12 u)[k]? =some x→w.cell? ⟨b,off+k,none⟩=some (.int .i64 (x:Int)):=by
  intro k x hx
  have hk:=(List.getElem?_eq_some_iff.1 hx).1
  rw[hc k (by omega)]
  simp[ivs,bD,hx]
 have hcons:=qZ aA xs.length 12 u
 have hu':w.cell? ⟨b,off,none⟩=some (.int .i64 (u:Int)):=hcell 0 u (by rw[hcons];rfl)
 have hp0:w.cell? ⟨pb,po+u,none⟩=some (.int .i64 0):=by
  rw[hpc u (by omega)]
  rw[List.getD_eq_getElem?_getD,List.getElem?_eq_getElem hu]at hu0
  simp only[Option.getD_some]at hu0
  simp[ivs,hu,hu0]
 have HV: ∀w',Ext w w'→Calls Tryz.prog 90 #[aI aA aB (some ⟨pb,po,none⟩) xs.length cap] w' fun e w''=>e= .returned (.bool true)∧Ext w' w'':=fun w' hy=>by
  have:=fV aA aB _ xs.length cap xs w' (hS.ext hy)
  rwa[hok]at this
 have HI: ∀w,Calls Tryz.prog 77 #[(u:Int),(),((xs.length:Int)-1:Int)] w fun e w'=>e= .returned (.bool true)∧w=w':=fun w=>by
  have:=oF (u:Int) 0 ((xs.length:Int)-1) w
  rwa[show decide ((0:Int)≤(u:Int)∧(u:Int)≤(xs.length:Int)-1)=true by simp;omega]at this
 have HW: ∀w',Ext w w'→Calls Tryz.prog 181 #[aI aA aB (some ⟨pb,po,none⟩) xs.length cap,.slice (some ⟨b,off,none⟩) m lc] w' fun e w''=>e= .returned (.bool true)∧Ext w' w'':=fun w' hy=>
  aD4 aA aB _ xs.length cap b off m lc (cR aA xs.length 12 u) w' g5 g6 (by omega) (by omega) hm (Nat.lt_of_lt_of_le hb hy.sz) (fun k x hx=>(hy.cells.1 _ _ hb).trans (hcell k x hx)) u ((hy.cells.1 _ _ hb).trans hu')
   (fun k x y hx hxy w2 hy2=>by
    have h2:=pW hg 12 u k x y hu hx hxy
    have hxn:=aC8 hg 12 u x hu (List.mem_of_getElem? hx)
    have:=vH aA aB (x:Int) (y:Int) _ xs.length cap xs w2 (hS.ext (hy.trans hy2))
    rw[wN hok hxn h2.2]at this
    exact this) (fun w2 hy2=>HV w2 (hy.trans hy2)) HI
 exact aFg aA aB pb po xs.length cap xs b off m lc u (cR aA xs.length 12 u).tail (cR aA xs.length 12 u) w g5 g6 (by omega) (by omega) hcons hm hb hpb hok rfl hu hu0 (oV hg 12 u hu) hcell hu' hp0 HW
  (fun w' hy=>(eU aA aB _ xs.length cap xs w' (by omega) (hS.ext hy)).mono fun e w'' h=>h)
def iO (aA:Int)(n:Nat):Option Nat→List Nat
 |none=> []
 |some u=>cR aA n 12 u
theorem tJ {aA:Int}{n:Nat}(hg:(aA,n)∈fY){l:List Nat}(hl: ∀x∈l,x<n):(iO aA n (cL aA l)).length≤6:=by
 cases h:cL aA l with
 |none=>simp[iO]
 |some u=>exact(gU hg (hl u ((gK aA l).2 u h))).2.1
theorem tX {aA:Int}{n:Nat}(hg:(aA,n)∈fY){l:List Nat}(hl: ∀x∈l,x<n){u:Nat}(hu:u<n):
  ((iO aA n (cL aA l)).length=0∨(cR aA n 12 u).length<(iO aA n (cL aA l)).length→cL aA (l++ [u])=some u)∧
  (¬((iO aA n (cL aA l)).length=0∨(cR aA n 12 u).length<(iO aA n (cL aA l)).length)→cL aA (l++ [u])=cL aA l):=by
 obtain⟨k1,k2,k3⟩:=gU hg hu
 rw[vM]
 cases h:cL aA l with
 |none=>simp[iO,kZ]
 |some v=>
  obtain⟨m1,m2,m3⟩:=gU hg (hl v ((gK aA l).2 v h))
  simp only[iO,kZ]
  constructor
  ·intro hc;rw[if_pos (by omega)]
  ·intro hc;rw[if_neg (by omega)]
theorem aAd (aA aB:Int)(p:OA)(n cap:Nat)(fr:List Nat)(F:Nat)(w:World)(hg:Hid ((aA,n)∈fY))(hn:n≤12)(hF:Hid (fr.length=F))(hF12:F≤12)(hfr:Hid (∀x∈fr,x<n))
  (HF:xC 134 #[aI aA aB p n cap] w fun w' e w''=> ∃q c,e= .returned (.slice q F c)∧w''.ownsRow w'.heap.size TI 1 (.slice q F c) F (ivs (bD fr))∧Ext w' w'')
  (HWAY:Hid (∀(u:Nat),u<n→ ∀w',Ext w w'→Calls Tryz.prog 180 #[aI aA aB p n cap,(u:Int),(),(-1:Int)] w' (aY (bD (cR aA n 12 u)) w'))):
  Calls Tryz.prog 154 #[aI aA aB p n cap,(),(-1:Int)] w (aY (bD (iO aA n (cL aA fr))) w):=by
 go_enter Tryz.func154,Tryz.ntmps154
 have ME:=xQ (((((Mem.start w).blkNew TH3 #[aA,aB,.slice p n cap] (w.heap.size) (by simp))).made0 TI 1 (w.heap.size+1) (by simp)))
 go_wp2_with fail
 refine(HF.out _ ME.out.ext).mono ?_
 rintro e w1 ⟨q1,c1,rfl,ho1,hx1⟩
 have M1:=xQ ((ME.out).call hx1 ho1)
 clear ME
 have lt1_2:=M1.out.hi 2
 clear hx1 ho1
 go_wp2
 go_loopw [7,9] (fun v i wr=> ∃(k:Nat) (qb:OA) (l lb:Nat),k≤F∧i= .int .i64 k∧v= .slice qb l lb∧l=(iO aA n (cL aA (fr.take k))).length∧Mem w wr [aJ w.heap.size TI 1 (qb) (l) (lb) (ivs (bD (iO aA n (cL aA (fr.take k))))),aJ w.heap.size TI 1 (q1) (F) (c1) (ivs (bD fr)),aL w.heap.size (w.heap.size) TH3 #[aA,aB,.slice p n cap]]) (fun _ i _=>F-(intOf i).toNat)
 case atStart=>exact⟨0,some ⟨w.heap.size+1,0,none⟩,0,0,Nat.zero_le _,rfl,rfl,rfl,((M1.out).pick [1,0,2] (by decide) rfl)⟩
 case round=>
  clear M1
  obtain⟨k,qb,l,lb,hk,rfl,rfl,hl,hM⟩:=hrel
  have HM:=xQ hM
  have HLN:=xQ hl
  have hl6:l≤6:=by rw[hl];exact tJ hg.out (fun x hx=>hfr.out x (List.mem_of_mem_take hx))
  have hlt0:w.heap.size<wr.heap.size:=(HM.out.lt (i:=2) rfl rfl).2
  clear hM hl
  by_cases hlt:k<F
  ·obtain⟨u,hu⟩: ∃u,fr[k]? =some u:=⟨_,List.getElem?_eq_getElem (by rw[hF.out];exact hlt)⟩
   have hun:u<n:=hfr.out u (List.mem_of_getElem? hu)
   obtain⟨gf,rfl,hf1,hf2⟩:=HM.out.some (i:=1) rfl (by omega)
   have cu:wr.cell? ⟨gf,k,none⟩=some (.int .i64 (u:Int)):=by have:=(HM.out.own (i:=1) rfl).cellAt k (by omega);rw[this];simp[ivs,bD,hu]
   obtain⟨st1,st2⟩:=tX hg.out (l:=fr.take k) (fun x hx=>hfr.out x (List.mem_of_mem_take hx)) hun
   rw[←bF hu,←HLN.out]at st1 st2
   obtain⟨k1,k2,k3⟩:=gU hg.out hun
   have K3:=xQ k3
   obtain⟨W,hW⟩: ∃W,W=(cR aA n 12 u).length:=⟨_,rfl⟩
   rw[←hW]at k1 k2 st1 st2
   have ST1:=xQ st1
   have ST2:=xQ st2
   have HWl:=xQ hW
   have HC:=xQ (fun w' (hx:Ext w w')=>HWAY.out u hun w' hx)
   clear hu st1 st2 hW k3
   have i1:(0:Int)≤(k:Int):=by omega
   have i2:(k:Int)<(F:Int):=by omega
   go_wp2
   refine cS (gl [gEq (.agg #[aA,aB,.slice p n cap]),gEq (.slice (some ⟨gf,0,none⟩) F c1),gEq (k:Int),gEq (.pointer (some ⟨gf,k,none⟩)),gEq (u:Int),gEq (.int .i64 0),gEq (-1:Int),(fun v w'=> ∃q c,v= .slice q (W) c∧w'.ownsRow wr.heap.size TI 1 (.slice q (W) c) (W) (ivs (bD (cR aA n 12 u))))]) 8 (by kernel_rfl) rfl (by kernel_rfl) (by kernel_rfl) (by kernel_rfl) (eG (aK (aH _) (aK (aH _) (aK (aH _) (aK (aH _) (aK (aH _) (aK (aH _) (aK (aH _) (aK (fun v w w' ⟨q,c,he,ho⟩ hx=>⟨q,c,he,bB ho hx⟩) (fK)))))))))) (k:=9) (by kernel_rfl) (by decide) (ls:= [(0,some 20),(1,some 21),(2,some 22),(3,some 23),(4,some 24),(5,some 25),(6,some 26),(7,some 27)]) (by kernel_rfl) (ir:= [0,1,2,3,4,5,6,7]) (by kernel_rfl) ?steps (tl:=#[true,true,true,true,true,true,true,true,false]) (by kernel_rfl) ?fin
   case steps=>
    refine sC [] rfl (fun wi hx=> ?_) ?_
    ·intro K hK
     have hX:Ext wr wi:=by exact .trans (.drew (.refl _)) hx
     obtain⟨cl0,cl1,cl2⟩:=(((HM.out.blk (i:=2) rfl).ext hX)).tri
     go_simp
     exact hK _ _ ⟨.agg #[aA,aB,.slice p n cap],rfl,rfl,Ext.refl _⟩
    refine sC [] rfl (fun wi hx=> ?_) ?_
    ·intro K hK
     go_simp
     exact hK _ _ ⟨.slice (some ⟨gf,0,none⟩) F c1,rfl,rfl,Ext.refl _⟩
    refine sC [] rfl (fun wi hx=> ?_) ?_
    ·intro K hK
     go_simp
     exact hK _ _ ⟨.int .i64 (k:Int),rfl,rfl,Ext.refl _⟩
    refine sC [(1,some 21),(2,some 22)] rfl (fun wi hx=> ?_) ?_
    ·intro v1 h1 v2 h2 K hK
     obtain rfl:=h1
     obtain rfl:=h2
     go_simp
     exact hK _ _ ⟨.pointer (some ⟨gf,k,none⟩),rfl,rfl,Ext.refl _⟩
    refine sC [(3,some 23)] rfl (fun wi hx=> ?_) ?_
    ·intro v3 h3 K hK
     obtain rfl:=h3
     have hX:Ext wr wi:=by exact .trans (.drew (.refl _)) hx
     have cl0:wi.cell? ⟨gf,k,none⟩=some (.int .i64 (u:Int)):=(hX.cells.1 _ _ hf2).trans cu
     go_simp
     exact hK _ _ ⟨.int .i64 (u:Int),rfl,rfl,Ext.refl _⟩
    refine sC [] rfl (fun wi hx=> ?_) ?_
    ·intro K hK
     go_simp
     exact hK _ _ ⟨.int .i64 0,rfl,rfl,Ext.refl _⟩
    refine sC [] rfl (fun wi hx=> ?_) ?_
    ·intro K hK
     go_simp
     exact hK _ _ ⟨.int .i64 (-1),rfl,rfl,Ext.refl _⟩
    refine sC [(0,some 20),(4,some 24),(5,some 25),(6,some 26)] rfl (fun wi hx=> ?_) StepsL.nil
    ·intro v0 h0 v4 h4 v5 h5 v6 h6 K hK
     obtain rfl:=h0
     obtain rfl:=h4
     obtain rfl:=h5
     obtain rfl:=h6
     have hX:Ext wr wi:=by exact .trans (.drew (.refl _)) hx
     go_wp2_with fail
     refine(HC.out _ (HM.out.ext.trans hX)).mono ?_
     rintro e w5 ⟨q5,c5,rfl,o5,hx5⟩
     have hwl:(bD (cR aA n 12 u)).length=W:=by rw[HWl.out];simp[bD]
     rw[hwl]at o5⊢
     go_simp
     exact hK _ _ ⟨.slice q5 (W) c5,rfl,⟨q5,c5,rfl,bG o5 (by have:=hX.sz;simpa using this)⟩,hx5⟩
   case fin=>
    intro wi hx v0 h0 v1 h1 v2 h2 v3 h3 v4 h4 v5 h5 v6 h6 v7 h7
    obtain rfl:=h0
    obtain rfl:=h1
    obtain rfl:=h2
    obtain rfl:=h3
    obtain rfl:=h4
    obtain rfl:=h5
    obtain rfl:=h6
    obtain⟨q7,c7,rfl,ho7⟩:=h7
    have hX:Ext wr wi:=hx.of_drew
    have M1:=xQ (show Mem w wi [aJ w.heap.size TI 1 (q7) (W) (c7) (ivs (bD (cR aA n 12 u))),aJ w.heap.size TI 1 (qb) (l) (lb) (ivs (bD (iO aA n (cL aA (fr.take k))))),aJ w.heap.size TI 1 (some ⟨gf,0,none⟩) (F) (c1) (ivs (bD fr)),aL w.heap.size (w.heap.size) TH3 #[aA,aB,.slice p n cap]]from HM.out.ownNew hX ho7 (Nat.le_refl _))
    clear HM
    have lt1_3:=M1.out.hi 3
    try simp only[Act.put,List.setIfInBounds_toArray,List.set_cons_zero,List.set_cons_succ]
    refine wpAny_ready (rs:= [8]) (by kernel_rfl) (by simp) ?_
    refine AllReady.cons rfl (fun K hK=> ?_) AllReady.nil
    go_simp
    refine hK _ _ ?_
    clear hK K
    refine wpAny_done (by kernel_rfl) ?_ _
    try simp only[Act.put,List.setIfInBounds_toArray,List.set_cons_zero,List.set_cons_succ]
    clear hx hX cu ho7 HC hlt0
    have p1:decide ((0:Int)<(W:Int))=true:=by simp;omega
    by_cases h0:l=0
    ·have hn:=xQ (ST1.out (.inl h0))
     have t1:((l:Int)==0)=true:=by simp[h0]
     clear h0
     go_wp2
     go_roundw
     case rel=>exact⟨k+1,q7,W,c7,by omega,by go_num,rfl,by rw[hn.out];exact HWl.out,by rw[hn.out];exact((M1.out).pick [0,2,3] (by decide) rfl)⟩
     case measure=>simp[intOf];omega
    ·have t1:((l:Int)==0)=false:=by simp[h0]
     by_cases h1:W<l
     ·have hn:=xQ (ST1.out (.inr h1))
      have t2:decide ((W:Int)<(l:Int))=true:=by simp[h1]
      have t3:decide (W<l)=true:=by simp[h1]
      go_wp2
      go_roundw
      case rel=>exact⟨k+1,q7,W,c7,by omega,by go_num,rfl,by rw[hn.out];exact HWl.out,by rw[hn.out];exact((M1.out).pick [0,2,3] (by decide) rfl)⟩
      case measure=>simp[intOf];omega
     ·have hn:=xQ (ST2.out (fun h=>h.elim h0 h1))
      have t2:decide ((W:Int)<(l:Int))=false:=by simp;omega
      have t3:decide (W<l)=false:=by simp;omega
      go_wp2
      go_roundw
      case rel=>exact⟨k+1,qb,l,lb,by omega,by go_num,rfl,by rw[hn.out];exact HLN.out,by rw[hn.out];exact((M1.out).pick [1,2,3] (by decide) rfl)⟩
      case measure=>simp[intOf];omega
  ·obtain rfl:F=k:=by omega
   have hfin:Hid (fr.take F=fr):=by show _=_;rw[List.take_of_length_le (by rw[hF.out];omega)]
   go_wp2
   go_ret
   rw[hfin.out]at HLN HM
   exact cQ (by rw[List.length_map];exact HLN.out.symm) (HM.out.own (i:=0) rfl) HM.out.ext
theorem nC (aA aB:Int)(p:OA)(n cap:Nat)(xs:List Int)(w:World)(hS:Sl w p n cap 1 (ivs xs))(hok:aP aA aB xs=true):
  Calls Tryz.prog 154 #[aI aA aB p n cap,(),(-1:Int)] w (aY (bD (iO aA n (cL aA (bI xs)))) w):=by
 have hl:=hS.ilen
 subst hl
 obtain⟨g1,g2,g3,g4,g5,g6,g7⟩:=bR (cF hok)
 have hfl:(bI xs).length≤12:=by unfold bI;exact Nat.le_trans (List.length_filter_le _ _) (by simp;omega)
 refine aAd aA aB p xs.length cap (bI xs) _ w (iL hok) g6 rfl hfl (fun x hx=>(iM hx).1) (fun w' hy=> ?_) (fun u hu w' hy=>uR aA aB p xs.length cap u xs w' (hS.ext hy) hok hu)
 have:=aAl aA aB p xs.length cap xs w' (hS.ext hy)
 rw[hok,if_pos rfl,sI]at this
 refine this.mono fun e w'' h=> ?_
 obtain⟨q,c,h1,h2,h3⟩:=h
 rw[List.length_map]at h1 h2
 exact⟨q,c,h1,h2,h3⟩
end Go.Proofs.YtgnkoffndhmhpaaGreatDoor
