/-
  Texts of this proof, packed (@packed).
-/
import Derived.Deep.CutBlock
import Derived.Test.YtpelpnfhbepokaaGreatDoorU10
import Derived.Test.YtpelpnfhbepokaaGreatDoorU12
import Derived.Test.YtpelpnfhbepokaaGreatDoorU13
import Derived.Test.YtpelpnfhbepokaaGreatDoorU28
namespace Go.Proofs.YtpelpnfhbepokaaGreatDoor
open Go.RowKit
set_option linter.unusedVariables false
set_option linter.unusedSimpArgs false
set_option maxHeartbeats 8000000
set_option maxRecDepth 100000
theorem aK4 (aA aB:Int)(pb po:Nat)(n cap:Nat)(xs:List Int)(b c m c2 u:Nat)(q ws:List Nat)(w:World)(dd:4≤n)(hn:n≤12)(dc:0<m)(hm:m≤12)(bx:Hid (ws=u::q))(ak:Hid (ws.length=m))(hb:b<w.heap.size)(cq:pb<w.heap.size)
  (cp:Hid (aN aA aB xs=true))(ao:Hid (xs.length=n))(hu:u<n)(cs:Hid (xs.getD u 0=0))(cr:Hid (mI aA n u q))
  (HS:Hid (∀(k x:Nat),ws[k]? =some x→w.cell? ⟨b,c+k,none⟩=some (.int .i64 (x:Int)))) (be:w.cell? ⟨b,c,none⟩=some (.int .i64 (u:Int))) (b6:w.cell? ⟨pb,po+u,none⟩=some (.int .i64 0))
  (HV:xB 53 #[aH aA aB (some ⟨pb,po,none⟩) n cap] w true)
  (HH:Hid (∀w',Calls Tryz.prog 149 #[aH aA aB (some ⟨pb,po,none⟩) n cap,(u:Int)] w' fun e w''=>e= .returned (.bool true)∧Ext w' w''))
  (bw:Hid (∀(k x y:Nat),1≤k→ws[k-1]? =some x→ws[k]? =some y→ ∀w',Ext w w'→Calls Tryz.prog 215 #[aH aA aB (some ⟨pb,po,none⟩) n cap,(x:Int),(y:Int)] w' fun e w''=>e= .returned (.int .i64 1)∧Ext w' w''))
  (HK:Hid (∀w',Ext w w'→Calls Tryz.prog 79 #[aH aA aB (some ⟨pb,po,none⟩) n cap] w' (dK aA aB xs w'))):
  Calls Tryz.prog 188 #[aH aA aB (some ⟨pb,po,none⟩) n cap,.slice (some ⟨b,c,none⟩) m c2] w (gO (bY xs u q).2 w):=by
 have j1:(0:Int)≤(u:Int):=by omega
 have j2:(u:Int)<(n:Int):=by omega
 have j3:(0:Int)<(m:Int):=by omega
 have j4:((m:Int)==0)=false:=by first|(simp;done)|(simp;omega)
 go_enter Tryz.func188,Tryz.ntmps188;have ME:=((Mem.start w).c0 TH3 #[aA,aB,.slice (some ⟨pb,po,none⟩) n cap])
 go_wp2;refine rL (gl [gEq (.agg #[aA,aB,.slice (some ⟨pb,po,none⟩) n cap]),gEq (.bool true),gEq (.bool false),gEq (.bool false),gEq (.slice (some ⟨b,c,none⟩) m c2),gEq (m:Int),gEq (.bool false),gEq (.bool false),gEq (.bool false),gEq (.agg #[aA,aB,.slice (some ⟨pb,po,none⟩) n cap]),gEq (.slice (some ⟨b,c,none⟩) m c2),gEq (.pointer (some ⟨b,c,none⟩)),gEq (u:Int),gEq (.bool true),gEq (.bool false),gEq (.bool false),gEq (.bool false),gEq (.pointer (some ⟨w.heap.size,2,none⟩)),gEq (.slice (some ⟨pb,po,none⟩) n cap),gEq (.slice (some ⟨b,c,none⟩) m c2),gEq (.pointer (some ⟨b,c,none⟩)),gEq (u:Int),gEq (.pointer (some ⟨pb,po+u,none⟩)),gEq (.int .i64 0),gEq (.bool false),gEq (.bool false)]) 26 26 [(0,some 9),(1,some 10),(2,some 11),(3,some 12),(4,some 13),(5,some 14),(6,some 15),(7,some 16),(8,some 17),(9,some 18),(10,some 19),(11,some 20),(12,some 21),(13,some 22),(14,some 23),(15,some 24),(16,some 25),(17,some 26),(18,some 27),(19,some 28),(20,some 29),(21,some 30),(22,some 31),(23,some 32),(24,some 33),(25,some 34)] ?steps ?fin
 case steps=>
  refine sC [] rfl (fun wi hx=> ?_) ?_
  ·intro K hK;have hX:Ext (w.alloc (.cells #[aA,aB,.slice (some ⟨pb,po,none⟩) n cap] TH3)) wi:=xE;obtain⟨d,bc,bd⟩:=((ME.bk 0).ext hX).tri;go_simp;exact hK _ _ ⟨.agg #[aA,aB,.slice (some ⟨pb,po,none⟩) n cap],rfl,rfl,Ext.refl _⟩
  refine sC [(0,some 9)] rfl (fun wi hx=> ?_) ?_
  ·intro v0 h0 K hK;obtain rfl:=h0;have hX:Ext w wi:=xE;go_wp2_with fail;refine(HV _ hX).mono ?_;rintro e w5 ⟨rfl,ag⟩;go_simp;exact hK _ _ ⟨.bool true,rfl,rfl,ag⟩
  refine sS1 [(1,some 10)] (sS1 [(2,some 11)] (sS1 [(3,some 12)] (sS2 [(3,some 12),(4,some 13)] (sS2 [(3,some 12),(5,some 14)] (sS2 [(3,some 12),(6,some 15)] (sS1 [(7,some 16)] ?_))))));refine sC [(8,some 17)] rfl (fun wi hx=> ?_) ?_
  ·intro v8 h8 K hK;obtain rfl:=h8;have hX:Ext (w.alloc (.cells #[aA,aB,.slice (some ⟨pb,po,none⟩) n cap] TH3)) wi:=xE;obtain⟨d,bc,bd⟩:=((ME.bk 0).ext hX).tri;go_simp;exact hK _ _ ⟨.agg #[aA,aB,.slice (some ⟨pb,po,none⟩) n cap],rfl,rfl,Ext.refl _⟩
  refine sS1 [(8,some 17)] (sS2 [(8,some 17),(10,some 19)] ?_);refine sC [(8,some 17),(11,some 20)] rfl (fun wi hx=> ?_) ?_
  ·intro v8 h8 bu aa K hK;obtain rfl:=h8;obtain rfl:=aa;have hX:Ext (w.alloc (.cells #[aA,aB,.slice (some ⟨pb,po,none⟩) n cap] TH3)) wi:=xE;have d:wi.cell? ⟨b,c,none⟩=some (.int .i64 (u:Int)):=(ME.ext.trans hX).cells.1 _ _ hb |>.trans be;go_simp;exact hK _ _ ⟨.int .i64 (u:Int),rfl,rfl,Ext.refl _⟩
  refine sC [(8,some 17),(9,some 18),(12,some 21)] rfl (fun wi hx=> ?_) ?_
  ·intro v8 h8 v9 h9 c4 ay K hK;obtain rfl:=h8;obtain rfl:=h9;obtain rfl:=ay;have hX:Ext w wi:=xE;go_wp2_with fail;refine(HH _).mono ?_;rintro e w5 ⟨rfl,ag⟩;go_simp;exact hK _ _ ⟨.bool true,rfl,rfl,ag⟩
  refine sS2 [(8,some 17),(13,some 22)] (sS2 [(8,some 17),(14,some 23)] (sS1 [(15,some 24)] (sS1 [(16,some 25)] ?_)));refine sC [(16,some 25),(17,some 26)] rfl (fun wi hx=> ?_) ?_
  ·intro a7 o c5 az K hK;obtain rfl:=o;obtain rfl:=az;have hX:Ext (w.alloc (.cells #[aA,aB,.slice (some ⟨pb,po,none⟩) n cap] TH3)) wi:=xE;have d:=((ME.bk 0).ext hX).cl 2;go_simp;exact hK _ _ ⟨.slice (some ⟨pb,po,none⟩) n cap,rfl,rfl,Ext.refl _⟩
  refine sS1 [(16,some 25)] (sS2 [(16,some 25),(19,some 28)] ?_);refine sC [(16,some 25),(20,some 29)] rfl (fun wi hx=> ?_) ?_
  ·intro a7 o c6 a0 K hK;obtain rfl:=o;obtain rfl:=a0;have hX:Ext (w.alloc (.cells #[aA,aB,.slice (some ⟨pb,po,none⟩) n cap] TH3)) wi:=xE;have d:wi.cell? ⟨b,c,none⟩=some (.int .i64 (u:Int)):=(ME.ext.trans hX).cells.1 _ _ hb |>.trans be;go_simp;exact hK _ _ ⟨.int .i64 (u:Int),rfl,rfl,Ext.refl _⟩
  refine sS3 [(16,some 25),(18,some 27),(21,some 30)] ?_;refine sC [(16,some 25),(22,some 31)] rfl (fun wi hx=> ?_) ?_
  ·intro a7 o c8 a1 K hK;obtain rfl:=o;obtain rfl:=a1;have hX:Ext (w.alloc (.cells #[aA,aB,.slice (some ⟨pb,po,none⟩) n cap] TH3)) wi:=xE;have d:wi.cell? ⟨pb,po+u,none⟩=some (.int .i64 0):=(ME.ext.trans hX).cells.1 _ _ cq |>.trans b6;go_simp;exact hK _ _ ⟨.int .i64 0,rfl,rfl,Ext.refl _⟩
  exact sS2 [(16,some 25),(23,some 32)] (sS2 [(16,some 25),(24,some 33)] StepsL.nil)
 case fin=>
  intro wi hx v0 h0 v1 h1 v2 h2 v3 h3 v4 h4 v5 h5 v6 h6 v7 h7 v8 h8 v9 h9 c3 ax bu aa c4 ay dh b7 di b8 dj b9 a7 o c5 az dk cc dl cd c6 a0 dm ce c8 a1 dn cf dp cg dq ch;obtain rfl:=h0;obtain rfl:=h1;obtain rfl:=h2;obtain rfl:=h3;obtain rfl:=h4;obtain rfl:=h5;obtain rfl:=h6;obtain rfl:=h7;obtain rfl:=h8;obtain rfl:=h9;obtain rfl:=ax;obtain rfl:=aa;obtain rfl:=ay;obtain rfl:=b7;obtain rfl:=b8;obtain rfl:=b9;obtain rfl:=o;obtain rfl:=az;obtain rfl:=cc;obtain rfl:=cd;obtain rfl:=a0;obtain rfl:=ce;obtain rfl:=a1;obtain rfl:=cf;obtain rfl:=cg;obtain rfl:=ch;have hX:Ext (w.alloc (.cells #[aA,aB,.slice (some ⟨pb,po,none⟩) n cap] TH3)) wi:=hx.of_drew;have M1:=(ME.adv hX)
  clear ME hX hx;refine wpAny_done (by kernel_rfl) ?_ _;try go_frame
  go_wp2;go_loopw [5] (fun i wr=> ∃(k:Nat),1≤k∧k≤m∧i= .int .i64 (k:Int)∧Mem w wr [aJ w.heap.size (w.heap.size) TH3 #[aA,aB,.slice (some ⟨pb,po,none⟩) n cap]]) (fun i _=>m-(intOf i).toNat)
  case atStart=>exact⟨1,Nat.le_refl _,by omega,rfl,M1⟩
  case round=>
   clear M1;obtain⟨k,bj,hk,rfl,hM⟩:=hrel;have HM:=hM;clear hM;by_cases hlt:k<m
   ·obtain⟨x,hx⟩: ∃x,ws[k-1]? =some x:=⟨_,List.getElem?_eq_getElem (by rw[ak.out];omega)⟩
    obtain⟨y,hy⟩: ∃y,ws[k]? =some y:=⟨_,List.getElem?_eq_getElem (by rw[ak.out];omega)⟩
    have ca:wr.cell? ⟨b,c+(k-1),none⟩=some (.int .i64 (x:Int)):=(HM.ext.cells.1 _ _ hb).trans (HS (k-1) x hx);have cb:wr.cell? ⟨b,c+k,none⟩=some (.int .i64 (y:Int)):=(HM.ext.cells.1 _ _ hb).trans (HS k y hy);have s:b<wr.heap.size:=Nat.lt_of_lt_of_le hb HM.ext.sz;have a8:=xQ (bw k x y bj hx hy);clear hx hy;have i1:(0:Int)≤(k:Int):=by omega
    have i2:(k:Int)<(m:Int):=by omega
    have i3:(k:Int)-1<(m:Int):=by omega
    have i4:((k:Int)-1).toNat=k-1:=by omega
    have i5:(1:Int)≤(k:Int):=by omega
    go_wp2;refine rL (gl [gEq (.agg #[aA,aB,.slice (some ⟨pb,po,none⟩) n cap]),gEq (.slice (some ⟨b,c,none⟩) m c2),gEq (k:Int),gEq ((k:Int)-1:Int),gEq (.pointer (some ⟨b,c+(k-1),none⟩)),gEq (x:Int),gEq (.slice (some ⟨b,c,none⟩) m c2),gEq (k:Int),gEq (.pointer (some ⟨b,c+k,none⟩)),gEq (y:Int),gEq (.int .i64 1),gEq (.bool false)]) 12 12 [(0,some 41),(1,some 42),(2,some 43),(3,some 44),(4,some 45),(5,some 46),(6,some 47),(7,some 48),(8,some 49),(9,some 50),(10,some 51),(11,some 52)] ?steps ?fin
    case steps=>
     refine sC [] rfl (fun wi hx=> ?_) ?_
     ·intro K hK;have hX:Ext wr wi:=xE;obtain⟨d,bc,bd⟩:=((HM.bk 0).ext hX).tri;go_simp;exact hK _ _ ⟨.agg #[aA,aB,.slice (some ⟨pb,po,none⟩) n cap],rfl,rfl,Ext.refl _⟩
     refine sS0 [] (sS0 [] ?_);refine sC [(2,some 43)] rfl (fun wi hx=> ?_) ?_
     ·intro v2 h2 K hK;obtain rfl:=h2;have de:IntKind.i64.wrap ((k:Int)-1)=(k:Int)-1:=IntWalk.i64_in _ (by omega);go_simp;exact hK _ _ ⟨.int .i64 ((k:Int)-1),rfl,rfl,Ext.refl _⟩
     refine sS2 [(1,some 42),(3,some 44)] ?_;refine sC [(4,some 45)] rfl (fun wi hx=> ?_) ?_
     ·intro v4 h4 K hK;obtain rfl:=h4;have hX:Ext wr wi:=xE;have d:wi.cell? ⟨b,c+(k-1),none⟩=some (.int .i64 (x:Int)):=(hX.cells.1 _ _ s).trans ca;go_simp;exact hK _ _ ⟨.int .i64 (x:Int),rfl,rfl,Ext.refl _⟩
     refine sS0 [] (sS0 [] (sS2 [(6,some 47),(7,some 48)] ?_));refine sC [(8,some 49)] rfl (fun wi hx=> ?_) ?_
     ·intro v8 h8 K hK;obtain rfl:=h8;have hX:Ext wr wi:=xE;have d:wi.cell? ⟨b,c+k,none⟩=some (.int .i64 (y:Int)):=(hX.cells.1 _ _ s).trans cb;go_simp;exact hK _ _ ⟨.int .i64 (y:Int),rfl,rfl,Ext.refl _⟩
     refine sC [(0,some 41),(5,some 46),(9,some 50)] rfl (fun wi hx=> ?_) ?_
     ·intro v0 h0 v5 h5 v9 h9 K hK;obtain rfl:=h0;obtain rfl:=h5;obtain rfl:=h9;have hX:Ext wr wi:=xE;go_wp2_with fail;refine(a8 _ (HM.ext.trans hX)).mono ?_;rintro e w5 ⟨rfl,ag⟩;go_simp;exact hK _ _ ⟨.int .i64 1,rfl,rfl,ag⟩
     exact sS1 [(10,some 51)] StepsL.nil
    case fin=>
     intro wi hx v0 h0 v1 h1 v2 h2 v3 h3 v4 h4 v5 h5 v6 h6 v7 h7 v8 h8 v9 h9 c3 ax bu aa;obtain rfl:=h0;obtain rfl:=h1;obtain rfl:=h2;obtain rfl:=h3;obtain rfl:=h4;obtain rfl:=h5;obtain rfl:=h6;obtain rfl:=h7;obtain rfl:=h8;obtain rfl:=h9;obtain rfl:=ax;obtain rfl:=aa;have hX:Ext wr wi:=hx.of_drew;have M2:=(HM.adv hX)
     clear HM hX hx ca cb a8;refine wpAny_done (by kernel_rfl) ?_ _;try go_frame
     go_wp2;go_roundw
     case rel=>exact⟨k+1,by omega,by omega,by go_num,M2⟩
     case measure=>simp[intOf];omega
   obtain rfl:m=k:=by omega
   have b0:=(HM.bk 0).tri;obtain⟨h0,h1,h2⟩:=b0;have ct:=(HM.hi 0)
   go_wp2_with fail;clear h0 h1 h2 ct;refine(HK _ HM.ext).mono ?_;rintro e w2 ⟨q0,c0,rfl,o2,bq⟩;rw[ao.out]at o2⊢;have M2:=(HM.call bq o2)
   clear o2 bq HM;obtain⟨g,rfl,ck,cm⟩:=M2.so 0;clear ck cm;have M3:=(M2.c0 TH3 #[aA,aB,.slice (some ⟨g,0,none⟩) n c0])
   have M4:=(show Mem w _ [aI w.heap.size TI 1 (some ⟨g,0,none⟩) (n) (c0) (ivs (xs)),aI w.heap.size TSL 2 (none) (0) (0) (([]).flatMap aK),aJ w.heap.size (w2.heap.size) TH3 #[aA,aB,.slice (some ⟨g,0,none⟩) n c0],aJ w.heap.size (w.heap.size) TH3 #[aA,aB,.slice (some ⟨pb,po,none⟩) n cap]]from(M3.ownNew (Ext.refl _) (World.ownsRow_nil _ _ TSL 2) (Nat.le_refl _)).pick [2,0,1,3] (by decide) rfl)
   clear M2 M3;obtain⟨gV,aj⟩: ∃gV,gV=w2.heap.size:=⟨_,rfl⟩
   rw[←aj]at M4;go_wp2;rw[←aj];have da:=xQ aj;clear aj;go_loopw [6,8] (fun v i wr=> ∃(k x:Nat) (rest:List Nat) (ys:List Int) (q5:OA) (l lc:Nat) (sl:List Sl2),1≤k∧k≤m∧i= .int .i64 (k:Int)∧v= .slice q5 l lc∧l=sl.length∧l≤k∧ws.drop (k-1)=x::rest∧aN aA aB ys=true∧ys.length=n∧x<n∧ys.getD x 0=0∧mI aA n x rest∧sl++(bY ys x rest).2=(bY xs u q).2∧Mem w wr [aI w.heap.size TI 1 (some ⟨g,0,none⟩) (n) (c0) (ivs (ys)),aI w.heap.size TSL 2 (q5) (l) (lc) (sl.flatMap aK),aJ w.heap.size (gV) TH3 #[aA,aB,.slice (some ⟨g,0,none⟩) n c0],aJ w.heap.size (w.heap.size) TH3 #[aA,aB,.slice (some ⟨pb,po,none⟩) n cap]]) (fun _ i _=>m-(intOf i).toNat)
   case atStart=>exact⟨1,u,q,xs,none,0,0,[],Nat.le_refl _,by omega,rfl,rfl,rfl,by omega,by rw[bx.out];rfl,cp.out,ao.out,hu,cs.out,cr.out,rfl,M4⟩
   case round=>
    clear M4;obtain⟨k,x,rest,ys,q5,l,lc,sl,bj,hk,rfl,rfl,hl,db,bh,aq,bm,br,bp,au,ar,hM⟩:=hrel;have ah:=xQ bh;have am:=xQ aq;have f:=xQ bm;have ba:=xQ bp;have an:=xQ au;have t:=xQ ar;have aw:=xQ hl;have HM:=hM;clear bh aq bm bp au ar hM hl;by_cases hlt:k<m
    ·obtain⟨y,rest',p⟩: ∃y rest',rest=y::rest':=by
      have h1:=congrArg List.length ah.out;rw[List.length_drop,ak.out]at h1;cases rest with
      |nil=>simp at h1;omega
      |cons y r=>exact⟨y,r,rfl⟩
     subst p;have a4:ws[k-1]? =some x:=by have:=congrArg (fun z=>z[0]?) ah.out;simpa using this
     have ab:ws.drop k=y::rest':=by have:=congrArg List.tail ah.out;rw[List.tail_drop,show k-1+1=k by omega]at this;exact this
     have a5:ws[k]? =some y:=by have:=congrArg (fun z=>z[0]?) ab;simpa using this
     have a9:=xQ ab;have ai:y∈aP aA n x:=an.out.1;have a3:y<n:=(bM.1 ai).1;have bg:aX aA (x:Int) (y:Int)=1:=(bM.1 ai).2;have bs: ¬(x=y):=by
      intro e;subst e;have:aX aA (x:Int) (x:Int)=0:=by unfold aX oX;simp
      omega
     have bv:=xQ ai;have ca:wr.cell? ⟨b,c+(k-1),none⟩=some (.int .i64 (x:Int)):=(HM.ext.cells.1 _ _ hb).trans (HS (k-1) x a4);have cb:wr.cell? ⟨b,c+k,none⟩=some (.int .i64 (y:Int)):=(HM.ext.cells.1 _ _ hb).trans (HS k y a5);have s:b<wr.heap.size:=Nat.lt_of_lt_of_le hb HM.ext.sz;have bz:=xQ a4;have b1:=xQ a5;clear ab ai a4 a5 bg;obtain⟨z,hz⟩: ∃z,z=ys.getD y 0:=⟨_,rfl⟩
     have HZ:=xQ hz;have cy:wr.cell? ⟨g,y,none⟩=some (.int .i64 z):=by have h1:=(dB (D:=ys) (v:=y) (by rw[f.out];exact a3)).1;rw[←hz]at h1;have:=(HM.ow 0).cellAt y (by omega);rw[this];simp only[ivs,List.getElem?_map,h1,Option.map_some]
     clear hz;have v2:=(HM.bk 2).cl 2;have al:=(HM.hi 2)
     have i1:(0:Int)≤(k:Int):=by omega
     have i2:(k:Int)<(m:Int):=by omega
     have i3:(k:Int)-1<(m:Int):=by omega
     have i4:((k:Int)-1).toNat=k-1:=by omega
     have i5:(1:Int)≤(k:Int):=by omega
     have i6:(0:Int)≤(y:Int):=by omega
     have i7:(y:Int)<(n:Int):=by omega
     have i8:(0:Int)≤(x:Int):=by omega
     have i9:(x:Int)<(n:Int):=by omega
     have df:(0:Int)≤(k:Int)-1:=by omega
     have dg:IntKind.i64.wrap ((k:Int)-1)=(k:Int)-1:=IntWalk.i64_in _ (by omega);go_upto_block 3 with fail;go_cut [6,8]from 61 to 105 (fun s6 s8 wx=> ∃(ys':List Int) (q':OA) (l' lc':Nat) (sl':List Sl2),s6= .slice q' l' lc'∧s8= .int .i64 (k:Int)∧l'=sl'.length∧l'≤k+1∧aN aA aB ys'=true∧ys'.length=n∧ys'.getD y 0=0∧sl'++(bY ys' y rest').2=(bY xs u q).2∧Mem w wx [aI w.heap.size TI 1 (some ⟨g,0,none⟩) (n) (c0) (ivs (ys')),aI w.heap.size TSL 2 (q') (l') (lc') (sl'.flatMap aK),aJ w.heap.size (gV) TH3 #[aA,aB,.slice (some ⟨g,0,none⟩) n c0],aJ w.heap.size (w.heap.size) TH3 #[aA,aB,.slice (some ⟨pb,po,none⟩) n cap]])
     case first=>
      go_wp2;go_quiet (fail);generalize af:World.drewN _ _=wq;have MQ:=(show Mem w wq [aI w.heap.size TI 1 (some ⟨g,0,none⟩) (n) (c0) (ivs (ys)),aI w.heap.size TSL 2 (q5) (l) (lc) (sl.flatMap aK),aJ w.heap.size (gV) TH3 #[aA,aB,.slice (some ⟨g,0,none⟩) n c0],aJ w.heap.size (w.heap.size) TH3 #[aA,aB,.slice (some ⟨pb,po,none⟩) n cap]]from by rw[←af];exact HM.adv xE)
      have b3:wq.cell? ⟨b,c+(k-1),none⟩=some (.int .i64 (x:Int)):=by rw[←af];simpa using ca
      have b5:wq.cell? ⟨b,c+k,none⟩=some (.int .i64 (y:Int)):=by rw[←af];simpa using cb
      have ci:b<wq.heap.size:=by rw[←af];simpa using s
      clear af HM ca cb cy v2 al s;by_cases hz0:z=0
      ·have t0:(z !=0)=false:=by simp[hz0]
       have bb:=xQ (show ys.getD y 0=0 by rw[←HZ.out];exact hz0);have hr:=xQ (pQ (a:=x) (l:=rest') bb.out);clear hz0;go_wp2_with fail;go_meet
       case rel=>exact⟨ys,q5,l,lc,sl,rfl,rfl,aw.out,by omega,am.out,f.out,bb.out,by rw[←t.out,hr.out],MQ⟩
      have t0:(z !=0)=true:=by simp[hz0]
      have a6: ¬ys.getD y 0=0:=by rw[←HZ.out];exact hz0
      obtain⟨n1,n2,n3⟩:=sG am (by rw[f.out];exact br) ba (by rw[f.out];exact bv.out) a6;have a2:=nV (a:=x) (l:=rest') a6;rw[←HZ.out]at n1 n2 n3 a2;have hr:=xQ a2;have N1:=xQ n1;have N2:=xQ n2;have N3:=xQ n3;clear n1 n2 n3 hz0 a6 a2;go_wp2_with fail
      go_region_held3 (fun w'=>w'.cell? ⟨b,c+k,none⟩=some (.int .i64 (y:Int))∧w'.cell? ⟨b,c+(k-1),none⟩=some (.int .i64 (x:Int))) (first|(refine⟨?_,?_⟩<;>assumption)|go_keep) (first
       |(refine gG qY (by rfl) _ _ (by rfl) (MQ.adv (by first|exact(Ext.refl _).alloc _|exact Ext.drew ((Ext.refl _).alloc _)|exact xE)) 1 (by rfl) (by rfl) (aK ((y:Int),(x:Int))) (by rfl) (by first|exact eU _ _ _ 1 2 _ (by simp) (by simp) (by simp[maxLen])|exact(eU wq #[(y:Int),(x:Int)] TSL 1 2 _ (by simp) (by simp) (by simp[maxLen])).ext (Ext.drew (Ext.refl _))) (mL _ _) (by omega) ?_
         intro q7 c7 w6 M6;have M7:=(show Mem w w6 [aI w.heap.size TI 1 (some ⟨g,0,none⟩) (n) (c0) (ivs (ys)),aI w.heap.size TSL 2 (q7) (l+1) (c7) ((sl++ [((y:Int),(x:Int))]).flatMap aK),aJ w.heap.size (gV) TH3 #[aA,aB,.slice (some ⟨g,0,none⟩) n c0],aJ w.heap.size (w.heap.size) TH3 #[aA,aB,.slice (some ⟨pb,po,none⟩) n cap]]from by have h:=M6;simpa only[List.set_cons_zero,List.set_cons_succ,List.flatMap_append,List.flatMap_cons,List.flatMap_nil,List.append_nil]using h)
         clear M6;have b4:w6.cell? ⟨b,c+k,none⟩=some (.int .i64 (y:Int)):=(M7.ext.cells.1 _ _ hb).trans (HS k y b1.out)
         have b2:w6.cell? ⟨b,c+(k-1),none⟩=some (.int .i64 (x:Int)):=(M7.ext.cells.1 _ _ hb).trans (HS (k-1) x bz.out)))
      clear MQ b3 b5 ci;have v2:=(M7.bk 2).cl 2;have al:=(M7.hi 2)
      have cj:b<w6.heap.size:=Nat.lt_of_lt_of_le hb M7.ext.sz;have cy:w6.cell? ⟨g,y,none⟩=some (.int .i64 z):=by have h1:=(dB (D:=ys) (v:=y) (by rw[f.out];exact a3)).1;rw[←HZ.out]at h1;have:=(M7.ow 0).cellAt y (by omega);rw[this];simp only[ivs,List.getElem?_map,h1,Option.map_some]
      have cx:w6.cell? ⟨g,x,none⟩=some (.int .i64 0):=by have h1:=(dB (D:=ys) (v:=x) (by rw[f.out];exact br)).1;rw[ba.out]at h1;have:=(M7.ow 0).cellAt x (by omega);rw[this];simp only[ivs,List.getElem?_map,h1,Option.map_some]
      have fy:w6.frozen? ⟨g,y,none⟩=false:=(M7.ow 0).frozenAt y;have fx:w6.frozen? ⟨g,x,none⟩=false:=(M7.ow 0).frozenAt x;have bt: ¬(g=gV):=M7.ne (i:=0) (j:=2) (by omega) rfl rfl rfl rfl;have cu: ¬(gV=g):=fun e=>bt e.symm
      have cn:w.heap.size≤g:=(M7.lt (i:=0) rfl rfl).1;have cv: ¬(g=b):=by omega
      have cw: ¬(b=g):=by omega
      have cz: ¬(x=y):=bs;have c1: ¬(y=x):=fun e=>bs e.symm
      go_upto_region 15 with fail;go_region;clear v2 al cj cy cx fy fx bt cu cn cv cw cz c1 b2 b4;have MX:=(show Mem w ((w6.setCell ⟨g,x,none⟩ (.int .i64 z)).setCell ⟨g,y,none⟩ (.int .i64 0)) [aI w.heap.size TI 1 (some ⟨g,0,none⟩) (n) (c0) (ivs ((ys.set x z).set y 0)),aI w.heap.size TSL 2 (q7) (l+1) (c7) ((sl++ [((y:Int),(x:Int))]).flatMap aK),aJ w.heap.size (gV) TH3 #[aA,aB,.slice (some ⟨g,0,none⟩) n c0],aJ w.heap.size (w.heap.size) TH3 #[aA,aB,.slice (some ⟨pb,po,none⟩) n cap]]from by rw[←dN,←dN];exact(M7.ostore (i:=0) rfl x (.int .i64 z)).ostore (i:=0) rfl y (.int .i64 0))
      have MY:=(MX.adv (Ext.drew (Ext.refl _)))
      generalize bo:World.drew _=w8;rw[bo]at MY;clear bo MX M7;go_wp2_with fail;go_meet
      case rel=>exact⟨(ys.set x z).set y 0,q7,l+1,c7,sl++ [((y:Int),(x:Int))],rfl,rfl,by rw[List.length_append,←aw.out];rfl,by omega,N1.out,by rw[N2.out,f.out],N3.out,by rw[←t.out,hr.out];simp,MY⟩
     case rest=>
      obtain⟨ys',q',l',lc',sl',rfl,rfl,bl,c9,ap,ad,av,ae,bf⟩:=hcut;have h1:=xQ bl;have h2:=xQ ap;have h3:=xQ ad;have h4:=xQ av;have h5:=xQ ae;have h6:=xQ bf;clear bl ap ad av ae bf HM ca cb cy v2 al s;go_wp2;go_roundw
      case rel=>exact⟨k+1,y,rest',ys',q',l',lc',sl',by omega,by omega,by go_num,rfl,h1.out,by omega,by rw[Nat.add_sub_cancel];exact a9.out,h2.out,h3.out,a3,h4.out,an.out.2,h5.out,h6.out⟩
      case measure=>simp[intOf];omega
    obtain rfl:m=k:=by omega
    have p:rest= []:=by
     have h1:=congrArg List.length ah.out;rw[List.length_drop,ak.out]at h1;cases rest with
     |nil=>rfl
     |cons y r=>simp at h1;omega
    subst p;have bi:Hid (sl=(bY xs u q).2):=by show _=_;rw[←t.out];simp[bY]
    go_wp2;go_ret;have co:=aw.out;subst co;rw[←bi.out];exact⟨q5,lc,rfl,HM.ow 1,HM.ext⟩
theorem aMq (aA aB:Int)(p:OA)(n cap:Nat)(xs:List Int)(lq:OA)(m lc u:Nat)(w:World)(hS:Sl w p n cap 1 (ivs xs))(d:aN aA aB xs=true)(hu:u<n)(f:xs.getD u 0=0)
  (hL:Sl w lq m lc 1 (ivs (bA (cY aA n 12 u)))):
  Calls Tryz.prog 188 #[aH aA aB p n cap,.slice lq m lc] w (gO (bY xs u (cY aA n 12 u).tail).2 w):=by
 have hl:=hS.ilen;subst hl;have hg:=jM d;obtain⟨g1,g2,g3,g4,g5,g6,g7⟩:=cG (cK d);obtain⟨k1,k2,k3⟩:=iT hg hu;have hm:=hL.ilen;rw[List.length_map]at hm;obtain⟨pb,po,rfl,i,l⟩:=hS.rd (by omega);obtain⟨b,g,rfl,hb,hc⟩:=hL.rd (by omega);have a: ∀(k x:Nat),(cY aA xs.length 12 u)[k]? =some x→w.cell? ⟨b,g+k,none⟩=some (.int .i64 (x:Int)):=by intro k x hx;have hk:=(List.getElem?_eq_some_iff.1 hx).1;rw[hc k (by omega)];simp[ivs,bA,hx]
 have c:=tY aA xs.length 12 u;have o:w.cell? ⟨b,g,none⟩=some (.int .i64 (u:Int)):=a 0 u (by rw[c];rfl);have h:w.cell? ⟨pb,po+u,none⟩=some (.int .i64 0):=by rw[l u (by omega)];rw[List.getD_eq_getElem?_getD,List.getElem?_eq_getElem hu]at f;simp only[Option.getD_some]at f;simp[ivs,hu,f]
 have HV: ∀w',Ext w w'→Calls Tryz.prog 53 #[aH aA aB (some ⟨pb,po,none⟩) xs.length cap] w' fun e w''=>e= .returned (.bool true)∧Ext w' w'':=fun w' hy=>by have:=fW aA aB _ xs.length cap xs w' (hS.ext hy);rwa[d]at this
 have HH: ∀w',Calls Tryz.prog 149 #[aH aA aB (some ⟨pb,po,none⟩) xs.length cap,(u:Int)] w' fun e w''=>e= .returned (.bool true)∧Ext w' w'':=fun w'=>by have:=iP aA aB (u:Int) (some ⟨pb,po,none⟩) xs.length cap w' (by omega);rwa[decide_eq_true (⟨by omega,by omega⟩:0≤(u:Int)∧(u:Int)<xs.length)]at this
 refine aK4 aA aB pb po xs.length cap xs b g m lc u (cY aA xs.length 12 u).tail (cY aA xs.length 12 u) w g5 g6 (by omega) (by omega) c hm hb i d rfl hu f (rH hg 12 u hu) a o h HV HH ?_
  (fun w' hy=>lA aA aB _ xs.length cap xs w' (by omega) (hS.ext hy))
 intro k x y hk hx hy w' hw;obtain⟨k,rfl⟩: ∃j,k=j+1:=⟨k-1,by omega⟩
 rw[Nat.add_sub_cancel]at hx;have h2:=sP hg 12 u k x y hu hx hy;have q:=aFn hg 12 u x hu (List.mem_of_getElem? hx);have h3:=bM.1 h2.2;have:=aMw aA aB x y _ xs.length cap xs w' (hS.ext hw) d q h3.1;rwa[h3.2]at this
def dZ (aA aB:Int)(xs:List Int)(l:List Sl2):List Int:=l.foldl (fun ys s=>bC aA aB ys s.1 s.2) xs
theorem aD1 (aA aB:Int)(xs:List Int)(l:List Sl2)(s:Sl2):dZ aA aB xs (l++ [s])=bC aA aB (dZ aA aB xs l) s.1 s.2:=by simp[dZ]
theorem yP {aA aB:Int}: ∀(l:List Sl2) (xs:List Int),aN aA aB xs=true→aN aA aB (dZ aA aB xs l)=true∧(dZ aA aB xs l).length=xs.length:=by
 intro l;induction l with
 |nil=>intro xs h;exact⟨h,rfl⟩
 |cons s l ih=>intro xs h;have:=ih (bC aA aB xs s.1 s.2) (iH _ _ h);exact⟨this.1,by rw[show dZ aA aB xs (s::l)=dZ aA aB (bC aA aB xs s.1 s.2) l from rfl,this.2,cS]⟩
theorem aCp (aA aB:Int)(p:OA)(n cap:Nat)(xs:List Int)(lq:OA)(m lc:Nat)(l:List Sl2)(w:World)(ai:Hid (l.length=m))(s:Hid (xs.length=n))(ad:Hid (aN aA aB xs=true))(y:Hid (Sl w lq m lc 2 (l.flatMap aK)))
  (HK:xC 79 #[aH aA aB p n cap] w fun w' e w''=> ∃q c,e= .returned (aH aA aB q n c)∧w''.ownsRow w'.heap.size TI 1 (.slice q n c) n (ivs xs)∧Ext w' w''):
  Calls Tryz.prog 144 #[aH aA aB p n cap,.slice lq m lc] w (dK aA aB (dZ aA aB xs l) w):=by
 have ay:=y.out.bd;go_enter Tryz.func144,Tryz.ntmps144;go_wp2_with fail;refine(HK _ (((Mem.start w).c0 TH3 #[aA,aB,.slice p n cap]).c1 TH3 #[(),(),((),())]).ext).mono ?_;rintro e w1 ⟨q0,c0,rfl,aa,ae⟩;have M1:=((((Mem.start w).c0 TH3 #[aA,aB,.slice p n cap]).c1 TH3 #[(),(),((),())]).call ae aa)
 have u:=M1.hi 1;have x:=M1.hi 2;clear ae aa;have M2:=(show Mem w _ [aI w.heap.size TI 1 (q0) (n) (c0) (ivs (xs)),aJ w.heap.size (w1.heap.size) TH3 #[aA,aB,.slice q0 n c0],aJ w.heap.size (w.heap.size+1) TH3 #[(),(),((),())],aJ w.heap.size (w.heap.size) TH3 #[aA,aB,.slice p n cap]]from(M1.c0 TH3 #[aA,aB,.slice q0 n c0]).pick [1,0,2,3] (by decide) rfl)
 clear M1 u x;obtain⟨gV,j⟩: ∃gV,gV=w1.heap.size:=⟨_,rfl⟩
 rw[←j]at M2;go_wp2;rw[←j];have ax:=xQ j;clear j;go_loopw [12] (fun i wr=> ∃(k:Nat) (q:OA) (c:Nat),k≤m∧i= .int .i64 (k:Int)∧Mem w wr [aI w.heap.size TI 1 (q) (n) (c) (ivs (dZ aA aB xs (l.take k))),aJ w.heap.size (gV) TH3 #[aA,aB,.slice q n c],aJ w.heap.size (w.heap.size+1) TH3 #[(),(),((),())],aJ w.heap.size (w.heap.size) TH3 #[aA,aB,.slice p n cap]]) (fun i _=>m-(intOf i).toNat)
 case atStart=>exact⟨0,q0,c0,Nat.zero_le _,rfl,M2⟩
 case round=>
  clear M2;obtain⟨k,q,c,hk,rfl,hM⟩:=hrel;have HM:=hM;clear hM;by_cases hlt:k<m
  ·obtain⟨b,az,f,t,aj,hx,hb,ag,ah⟩:=aBk (y.out.ext HM.ext) hlt;subst aj;have i1:(0:Int)≤(k:Int):=by omega
   have i2:(k:Int)<(m:Int):=by omega
   have ak:Hid (dZ aA aB xs (l.take (k+1))=bC aA aB (dZ aA aB xs (l.take k)) f t):=by show _=_;rw[bI hx,aD1]
   clear hx;obtain⟨d1,d2⟩:=yP (l.take k) xs ad.out;have HD:xC 49 #[aH aA aB q n c,dQ f t] wr fun w' e w''=> ∃q' c',e= .returned (.tuple #[aH aA aB q' n c',.bool (aZ aA aB (dZ aA aB xs (l.take k)) f t)])∧w''.ownsRow w'.heap.size TI 1 (.slice q' n c') n (ivs (dZ aA aB xs (l.take (k+1))))∧Ext w' w'':=fun w' hx=>by
    refine(yF aA aB f t q n c _ w' ((HM.sq 0).ext hx) d1).mono ?_;rintro e w'' ⟨q',c',h1,h2,h3⟩;have hl:(bC aA aB (dZ aA aB xs (l.take k)) f t).length=n:=by rw[cS,d2,s.out]
    rw[hl]at h1 h2;exact⟨q',c',h1,by rw[ak.out];exact h2,h3⟩
   clear d1 d2;have d:gV<wr.heap.size:=(HM.hi 1)
   have g:w.heap.size+1<wr.heap.size:=(HM.hi 2)
   have h:w.heap.size<wr.heap.size:=(HM.hi 3)
   obtain⟨v0,v1,v2⟩:=(HM.bk 1).tri;go_wp2_with fail;clear v0 v1 v2 ag ah;refine(HD _ ((Ext.refl _).alloc _)).mono ?_;rintro e w6 ⟨q6,c6,rfl,ab,af⟩;have M6:=((HM.c0 TSL #[f,t]).call af ab)
   clear HM d g h af ab;have al:=M6.hi 1;have am:=M6.hi 3;have an:=M6.hi 4;have ao:=M6.hi 5;obtain⟨v0,ap,v1,aq,v2,ar⟩:=(M6.bk 3).trif;go_wp2;have M7:=((M6.st 3 0 (.int .i64 aA)).st 3 1 (.int .i64 aB))
   have M8:=(M7.st 3 2 (.slice q6 n c6))
   have M9:=(show Mem w (((w6.setCell ⟨gV,0,none⟩ (.int .i64 aA)).setCell ⟨gV,1,none⟩ (.int .i64 aB)).setCell ⟨gV,2,none⟩ (.slice q6 n c6)) [aI w.heap.size TI 1 (q6) (n) (c6) (ivs (dZ aA aB xs (l.take (k+1)))),aJ w.heap.size (wr.heap.size) TSL #[f,t],aI w.heap.size TI 1 (q) (n) (c) (ivs (dZ aA aB xs (l.take k))),aJ w.heap.size (gV) TH3 #[aA,aB,.slice q6 n c6],aJ w.heap.size (w.heap.size+1) TH3 #[(),(),((),())],aJ w.heap.size (w.heap.size) TH3 #[aA,aB,.slice p n cap]]from M8)
   generalize a:World.setCell _ _ _=wz;rw[a]at M9;clear a M6 M7 M8 v0 ap v1 aq v2 ar;go_roundw
   case rel=>exact⟨k+1,q6,c6,by omega,by go_num,(M9.pick [0,3,4,5] (by decide) rfl)⟩
   case measure=>simp[intOf];omega
  obtain rfl:m=k:=by omega
  have z:Hid (dZ aA aB xs (l.take m)=dZ aA aB xs l):=by show _=_;rw[←ai.out,List.take_length]
  rw[z.out]at HM;have d:gV<wr.heap.size:=(HM.hi 1)
  have g:w.heap.size+1<wr.heap.size:=(HM.hi 2)
  have h:w.heap.size<wr.heap.size:=(HM.hi 3)
  obtain⟨v0,v1,v2⟩:=(HM.bk 1).tri;obtain⟨z0,au,z1,av,z2,aw⟩:=(HM.bk 2).trif;obtain⟨o,r⟩:=HM.nq 1 2;go_wp2;have M6:=((HM.st 2 0 (.int .i64 aA)).st 2 1 (.int .i64 aB))
  have M7:=(M6.st 2 2 (.slice q n c))
  have M8:=(show Mem w (((wr.setCell ⟨w.heap.size+1,0,none⟩ (.int .i64 aA)).setCell ⟨w.heap.size+1,1,none⟩ (.int .i64 aB)).setCell ⟨w.heap.size+1,2,none⟩ (.slice q n c)) [aI w.heap.size TI 1 (q) (n) (c) (ivs (dZ aA aB xs l)),aJ w.heap.size (gV) TH3 #[aA,aB,.slice q n c],aJ w.heap.size (w.heap.size+1) TH3 #[aA,aB,.slice q n c],aJ w.heap.size (w.heap.size) TH3 #[aA,aB,.slice p n cap]]from M7)
  generalize a:World.setCell _ _ _=wz;rw[a]at M8;clear a HM M6 M7 v0 v1 v2 z0 au z1 av z2 aw o r;obtain⟨y0,y1,y2⟩:=(M8.bk 2).tri;exact bodyPost_ret (v:=aH aA aB q n c) (by simp[results,Tryz.results144,go_sem, *]) rfl (uP (by exact(yP l xs ad.out).2.trans s.out) (M8.ow 0) M8.ext)
theorem yH (aA aB:Int)(p:OA)(n cap:Nat)(xs:List Int)(lq:OA)(m lc:Nat)(l:List Sl2)(w:World)(b:l.length=m)(hS:Sl w p n cap 1 (ivs xs))(a:aN aA aB xs=true)(hL:Sl w lq m lc 2 (l.flatMap aK)):
  Calls Tryz.prog 144 #[aH aA aB p n cap,.slice lq m lc] w (dK aA aB (dZ aA aB xs l) w):=by
 have hl:=hS.ilen;subst hl;obtain⟨g1,g2,g3,g4,g5,g6,g7,g8,g9⟩:=bQ a;exact aCp aA aB p xs.length cap xs lq m lc l w b rfl a hL (fun w' hx=>lA aA aB p xs.length cap xs w' (by omega) (hS.ext hx))
theorem aK7 (aA aB:Int)(p:OA)(n cap F:Nat)(fr:List Nat)(xs:List Int)(w:World)(hg:Hid ((aA,n)∈iD))(hF:Hid (fr.length=F))(ai:F≤12)(f:Hid (∀x∈fr,x<n))
  (HF:xC 186 #[aH aA aB p n cap] w fun w' e w''=> ∃q c,e= .returned (.slice q F c)∧w''.ownsRow w'.heap.size TI 1 (.slice q F c) F (ivs (bA fr))∧Ext w' w'')
  (m:Hid (∀(u:Nat),u<n→ ∀w',Ext w w'→Calls Tryz.prog 187 #[aH aA aB p n cap,(u:Int),(),(-1:Int)] w' (bH (bA (cY aA n 12 u)) w')))
  (ad:Hid (∀(u:Nat),cO aA fr=some u→ ∀w' q W c,Ext w w'→Sl w' q W c 1 (ivs (bA (cY aA n 12 u)))→Calls Tryz.prog 188 #[aH aA aB p n cap,.slice q W c] w' (gO (bY xs u (cY aA n 12 u).tail).2 w'))):
  Calls Tryz.prog 142 #[aH aA aB p n cap] w (oE ((cO aA fr).map fun u=>bY xs u (cY aA n 12 u).tail) w):=by
 have an: ∀(w:World) (a:OA) (n c n' c':Nat),(binOp .eql 23 (.slice a n c) (.slice none n' c')).run Tryz.prog w= .ok (.bool a.isNone) w:=fun w a n c n' c'=>Lib.run_eql_slice_nil w _ _ a n c n' c' Tryz.underlying23
 go_enter Tryz.func142,Tryz.ntmps142;go_wp2_with fail;refine(HF _ ((Mem.start w).c0 TH3 #[aA,aB,.slice p n cap]).ext).mono ?_;rintro e w1 ⟨q1,c1,rfl,y,aa⟩;have M1:=(((Mem.start w).c0 TH3 #[aA,aB,.slice p n cap]).call aa y)
 have ah:=M1.hi 1;clear aa y;have M2:=(show Mem w w1 [aI w.heap.size TI 1 (none) (0) (0) (ivs (bA (jT aA n (cO aA (fr.take 0))))),aI w.heap.size TI 1 (q1) (F) (c1) (ivs (bA fr)),aJ w.heap.size (w.heap.size) TH3 #[aA,aB,.slice p n cap]]from(M1.ownNew (Ext.refl _) (World.ownsRow_nil _ _ TI 1) (Nat.le_refl _)))
 clear M1;go_wp2;go_loopw [4,11] (fun v i wr=> ∃(k:Nat) (qb:OA) (l lb:Nat),k≤F∧i= .int .i64 (k:Int)∧v= .slice qb l lb∧l=(jT aA n (cO aA (fr.take k))).length∧qb.isNone=decide (l=0)∧Mem w wr [aI w.heap.size TI 1 (qb) (l) (lb) (ivs (bA (jT aA n (cO aA (fr.take k))))),aI w.heap.size TI 1 (q1) (F) (c1) (ivs (bA fr)),aJ w.heap.size (w.heap.size) TH3 #[aA,aB,.slice p n cap]]) (fun _ i _=>F-(intOf i).toNat)
 case atStart=>exact⟨0,none,0,0,Nat.zero_le _,rfl,rfl,rfl,rfl,M2⟩
 case round=>
  clear M2;obtain⟨k,qb,l,lb,hk,rfl,rfl,hl,z,hM⟩:=hrel;have HM:=hM;have b:=xQ hl;have HQ:=xQ z;have am:l≤6:=by rw[hl];exact xD hg.out (fun x hx=>f.out x (List.mem_of_mem_take hx))
  have t:w.heap.size<wr.heap.size:=(HM.hi 2)
  clear hM hl z;by_cases hlt:k<F
  ·obtain⟨u,hu⟩: ∃u,fr[k]? =some u:=⟨_,List.getElem?_eq_getElem (by rw[hF.out];exact hlt)⟩
   have d:u<n:=f.out u (List.mem_of_getElem? hu);obtain⟨gf,rfl,ak,al⟩:=HM.so 1;have cu:wr.cell? ⟨gf,k,none⟩=some (.int .i64 (u:Int)):=by have:=(HM.ow 1).cellAt k (by omega);rw[this];simp[ivs,bA,hu]
   obtain⟨g,h⟩:=xZ hg.out (l:=fr.take k) (fun x hx=>f.out x (List.mem_of_mem_take hx)) d;rw[←bI hu,←b.out]at g h;obtain⟨k1,k2,k3⟩:=iT hg.out d;obtain⟨W,hW⟩: ∃W,W=(cY aA n 12 u).length:=⟨_,rfl⟩
   rw[←hW]at k1 k2 g h;have o:=xQ g;have ae:=xQ h;have j:=xQ hW;have HC:=xQ (fun w' (hx:Ext w w')=>m u d w' hx);clear hu g h hW k3;have i1:(0:Int)≤(k:Int):=by omega
   have i2:(k:Int)<(F:Int):=by omega
   obtain⟨b0,b1,b2⟩:=(HM.bk 2).tri;go_wp2_with fail;clear b0 b1 b2 cu;refine(HC _ HM.ext).mono ?_;rintro e w5 ⟨q7,c7,rfl,o7,ab⟩;have af:(bA (cY aA n 12 u)).length=W:=by rw[j.out];simp[bA]
   rw[af]at o7⊢;have M5:=(HM.call ab o7)
   clear o7 ab HM HC t;obtain⟨g7,rfl,r,s⟩:=M5.some (i:=0) rfl k1;clear r s;by_cases h0:l=0
   ·have hn:=xQ (o (.inl h0));have hq:qb.isNone=true:=by rw[HQ.out,h0];rfl
    clear h0;go_wp2;go_roundw
    case rel=>exact⟨k+1,some ⟨g7,0,none⟩,W,c7,by omega,by go_num,rfl,by rw[hn.out];exact j.out,by simp;omega,by rw[hn.out];exact M5.pick [0,2,3] (by decide) rfl⟩
    case measure=>simp[intOf];omega
   have hq:qb.isNone=false:=by rw[HQ.out];simp[h0]
   by_cases h1:W<l
   ·have t1:decide ((W:Int)<(l:Int))=true:=by first|(simp;done)|(simp;omega)
    have hn:=xQ (o (.inr h1));have t2:(W:Int)<(l:Int):=by omega
    have t3:decide (W<l)=true:=by simp[h1]
    clear h0;go_wp2;go_roundw
    case rel=>exact⟨k+1,some ⟨g7,0,none⟩,W,c7,by omega,by go_num,rfl,by rw[hn.out];exact j.out,by simp;omega,by rw[hn.out];exact M5.pick [0,2,3] (by decide) rfl⟩
    case measure=>simp[intOf];omega
   have t1:decide ((W:Int)<(l:Int))=false:=by first|(simp;done)|(simp;omega)
   have hn:=xQ (ae (by omega));have t2: ¬((W:Int)<(l:Int)):=by omega
   have t3:decide (W<l)=false:=by simp[h1]
   clear h0;go_wp2;go_roundw
   case rel=>exact⟨k+1,qb,l,lb,by omega,by go_num,rfl,by rw[hn.out];exact b.out,HQ.out,by rw[hn.out];exact M5.pick [1,2,3] (by decide) rfl⟩
   case measure=>simp[intOf];omega
  obtain rfl:F=k:=by omega
  rw[show fr.take F=fr by rw[←hF.out];exact List.take_length]at HM b;obtain⟨b0,b1,b2⟩:=(HM.bk 2).tri;cases hne:cO aA fr with
  |none=>
   have hq:qb.isNone=true:=by rw[HQ.out,b.out,hne];rfl
   have hE:=xQ HM.ext;clear HM b;go_wp2;exact bodyPost_ret (v:= .tuple #[((),()),.bool false]) (by simp[results,Tryz.results142,go_sem, *]) rfl (by rw[hne];exact⟨_,rfl,by have:=hE.out;exact xE⟩)
  |some u=>
   have d:u<n:=f.out u ((iO aA fr).2 u hne);obtain⟨k1,k2,k3⟩:=iT hg.out d;rw[hne]at HM b;have hq:qb.isNone=false:=by rw[HQ.out,b.out];exact decide_eq_false (by show¬(cY aA n 12 u).length=0;omega)
   have HH:=xQ (ad u hne);have aj:=xQ k1;clear k1 k2 k3;go_wp2_with fail;clear b0 b1 b2;refine(HH _ qb l lb HM.ext (HM.sq 0)).mono ?_;rintro e w9 ⟨q9,c9,rfl,o9,ag⟩;have HX:=xQ HM.ext;clear HM;go_wp2;exact bodyPost_ret (v:= .tuple #[.slice q9 (bY xs u (cY aA n 12 u).tail).2.length c9,.bool true]) (by simp[results,Tryz.results142,go_sem, *]) rfl (by rw[hne];exact⟨q9,c9,rfl,bK o9 HX.out.sz,HX.out.trans ag⟩)
theorem aMv (aA aB:Int)(p:OA)(n cap:Nat)(xs:List Int)(w:World)(hS:Sl w p n cap 1 (ivs xs))(a:aN aA aB xs=true):
  Calls Tryz.prog 142 #[aH aA aB p n cap] w (oE (gM aA xs) w):=by
 have hl:=hS.ilen;subst hl;have hg:=jM a;obtain⟨g1,g2,g3,g4,g5,g6,g7,g8,g9⟩:=bQ a;have d:(bE xs).length≤xs.length:=by unfold bE;exact Nat.le_trans (List.length_filter_le _ _) (by simp)
 refine aK7 aA aB p xs.length cap (bE xs).length (bE xs) xs w hg rfl (by omega) (fun x hx=>(jN hx).1) (fun w' hx=> ?_) (fun u hu w' hx=>aMl aA aB p xs.length cap u xs w' (hS.ext hx) a hu) (fun u hne w' q W c hx hL=> ?_)
 ·have:=aMs aA aB p xs.length cap xs w' (hS.ext hx);rw[if_pos a,vO]at this;refine this.mono fun e w'' h1=> ?_
  obtain⟨q,c,h2,h3,h4⟩:=h1;rw[List.length_map]at h2 h3;exact⟨q,c,h2,h3,h4⟩
 obtain⟨hu,b⟩:=jN ((iO aA _).2 u hne);exact aMq aA aB p xs.length cap xs q W c u w' (hS.ext hx) a hu b hL
end Go.Proofs.YtpelpnfhbepokaaGreatDoor
