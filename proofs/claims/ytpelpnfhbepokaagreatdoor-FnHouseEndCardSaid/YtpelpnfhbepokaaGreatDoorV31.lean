/-
  Texts of this proof, packed (@packed).
-/
import Derived.Test.YtpelpnfhbepokaaGreatDoorV30
namespace Go.Proofs.YtpelpnfhbepokaaGreatDoor
open Go.RowKit
set_option linter.unusedVariables false
set_option linter.unusedSimpArgs false
set_option maxHeartbeats 8000000
set_option maxRecDepth 100000
theorem aIj (aA aB:Int)(pb po:Nat)(n c:Nat)(xs:List Int)(b d m c2 u:Nat)(s ws:List Nat)(w:World)(de:4≤n)(hn:n≤12)(dd:0<m)(hm:m≤12)(bz:Hid (ws=u::s))(al:Hid (ws.length=m))(hb:b<w.heap.size)(cr:pb<w.heap.size)
  (cq:Hid (aM aA aB xs=true))(ap:Hid (xs.length=n))(hu:u<n)(ct:Hid (xs.getD u 0=0))(cs:Hid (mE aA n u s))
  (HS:Hid (∀(k x:Nat),ws[k]? =some x→w.cell? ⟨b,d+k,none⟩=some (.int .i64 (x:Int)))) (bf:w.cell? ⟨b,d,none⟩=some (.int .i64 (u:Int))) (b7:w.cell? ⟨pb,po+u,none⟩=some (.int .i64 0))
  (HV:xB 53 #[aH aA aB (some ⟨pb,po,none⟩) n c] w true)
  (HH:Hid (∀w',Calls Tryz.prog 149 #[aH aA aB (some ⟨pb,po,none⟩) n c,(u:Int)] w' fun e w''=>e= .returned (.bool true)∧Ext w' w''))
  (bx:Hid (∀(k x y:Nat),1≤k→ws[k-1]? =some x→ws[k]? =some y→ ∀w',Ext w w'→Calls Tryz.prog 215 #[aH aA aB (some ⟨pb,po,none⟩) n c,(x:Int),(y:Int)] w' fun e w''=>e= .returned (.int .i64 1)∧Ext w' w''))
  (HK:Hid (∀w',Ext w w'→Calls Tryz.prog 79 #[aH aA aB (some ⟨pb,po,none⟩) n c] w' (cY aA aB xs w'))):
  Calls Tryz.prog 188 #[aH aA aB (some ⟨pb,po,none⟩) n c,.slice (some ⟨b,d,none⟩) m c2] w (eY (cC xs u s).2 w):=by
 have j1:(0:Int)≤(u:Int):=by omega
 have j2:(u:Int)<(n:Int):=by omega
 have j3:(0:Int)<(m:Int):=by omega
 have j4:((m:Int)==0)=false:=by first|(simp;done)|(simp;omega)
 go_enter Tryz.func188,Tryz.ntmps188;have ME:=((Mem.start w).c0 TH3 #[aA,aB,.slice (some ⟨pb,po,none⟩) n c])
 go_wp2;refine rL (gl [gEq (.agg #[aA,aB,.slice (some ⟨pb,po,none⟩) n c]),gEq (.bool true),gEq (.bool false),gEq (.bool false),gEq (.slice (some ⟨b,d,none⟩) m c2),gEq (m:Int),gEq (.bool false),gEq (.bool false),gEq (.bool false),gEq (.agg #[aA,aB,.slice (some ⟨pb,po,none⟩) n c]),gEq (.slice (some ⟨b,d,none⟩) m c2),gEq (.pointer (some ⟨b,d,none⟩)),gEq (u:Int),gEq (.bool true),gEq (.bool false),gEq (.bool false),gEq (.bool false),gEq (.pointer (some ⟨w.heap.size,2,none⟩)),gEq (.slice (some ⟨pb,po,none⟩) n c),gEq (.slice (some ⟨b,d,none⟩) m c2),gEq (.pointer (some ⟨b,d,none⟩)),gEq (u:Int),gEq (.pointer (some ⟨pb,po+u,none⟩)),gEq (.int .i64 0),gEq (.bool false),gEq (.bool false)]) 26 26 [(0,some 9),(1,some 10),(2,some 11),(3,some 12),(4,some 13),(5,some 14),(6,some 15),(7,some 16),(8,some 17),(9,some 18),(10,some 19),(11,some 20),(12,some 21),(13,some 22),(14,some 23),(15,some 24),(16,some 25),(17,some 26),(18,some 27),(19,some 28),(20,some 29),(21,some 30),(22,some 31),(23,some 32),(24,some 33),(25,some 34)] ?steps ?fin
 case steps=>
  refine sC [] rfl (fun wi hx=> ?_) ?_
  ·intro K hK;have hX:Ext (w.alloc (.cells #[aA,aB,.slice (some ⟨pb,po,none⟩) n c] TH3)) wi:=xE;obtain⟨f,bd,be⟩:=((ME.bk 0).ext hX).tri;go_simp;exact hK _ _ ⟨.agg #[aA,aB,.slice (some ⟨pb,po,none⟩) n c],rfl,rfl,Ext.refl _⟩
  refine sC [(0,some 9)] rfl (fun wi hx=> ?_) ?_
  ·intro v0 h0 K hK;obtain rfl:=h0;have hX:Ext w wi:=xE;go_wp2_with fail;refine(HV _ hX).mono ?_;rintro e w5 ⟨rfl,ah⟩;go_simp;exact hK _ _ ⟨.bool true,rfl,rfl,ah⟩
  refine sS1 [(1,some 10)] (sS1 [(2,some 11)] (sS1 [(3,some 12)] (sS2 [(3,some 12),(4,some 13)] (sS2 [(3,some 12),(5,some 14)] (sS2 [(3,some 12),(6,some 15)] (sS1 [(7,some 16)] ?_))))));refine sC [(8,some 17)] rfl (fun wi hx=> ?_) ?_
  ·intro v8 h8 K hK;obtain rfl:=h8;have hX:Ext (w.alloc (.cells #[aA,aB,.slice (some ⟨pb,po,none⟩) n c] TH3)) wi:=xE;obtain⟨f,bd,be⟩:=((ME.bk 0).ext hX).tri;go_simp;exact hK _ _ ⟨.agg #[aA,aB,.slice (some ⟨pb,po,none⟩) n c],rfl,rfl,Ext.refl _⟩
  refine sS1 [(8,some 17)] (sS2 [(8,some 17),(10,some 19)] ?_);refine sC [(8,some 17),(11,some 20)] rfl (fun wi hx=> ?_) ?_
  ·intro v8 h8 bv ab K hK;obtain rfl:=h8;obtain rfl:=ab;have hX:Ext (w.alloc (.cells #[aA,aB,.slice (some ⟨pb,po,none⟩) n c] TH3)) wi:=xE;have f:wi.cell? ⟨b,d,none⟩=some (.int .i64 (u:Int)):=(ME.ext.trans hX).cells.1 _ _ hb |>.trans bf;go_simp;exact hK _ _ ⟨.int .i64 (u:Int),rfl,rfl,Ext.refl _⟩
  refine sC [(8,some 17),(9,some 18),(12,some 21)] rfl (fun wi hx=> ?_) ?_
  ·intro v8 h8 v9 h9 c5 az K hK;obtain rfl:=h8;obtain rfl:=h9;obtain rfl:=az;have hX:Ext w wi:=xE;go_wp2_with fail;refine(HH _).mono ?_;rintro e w5 ⟨rfl,ah⟩;go_simp;exact hK _ _ ⟨.bool true,rfl,rfl,ah⟩
  refine sS2 [(8,some 17),(13,some 22)] (sS2 [(8,some 17),(14,some 23)] (sS1 [(15,some 24)] (sS1 [(16,some 25)] ?_)));refine sC [(16,some 25),(17,some 26)] rfl (fun wi hx=> ?_) ?_
  ·intro a8 p c6 a0 K hK;obtain rfl:=p;obtain rfl:=a0;have hX:Ext (w.alloc (.cells #[aA,aB,.slice (some ⟨pb,po,none⟩) n c] TH3)) wi:=xE;have f:=((ME.bk 0).ext hX).cl 2;go_simp;exact hK _ _ ⟨.slice (some ⟨pb,po,none⟩) n c,rfl,rfl,Ext.refl _⟩
  refine sS1 [(16,some 25)] (sS2 [(16,some 25),(19,some 28)] ?_);refine sC [(16,some 25),(20,some 29)] rfl (fun wi hx=> ?_) ?_
  ·intro a8 p c8 a1 K hK;obtain rfl:=p;obtain rfl:=a1;have hX:Ext (w.alloc (.cells #[aA,aB,.slice (some ⟨pb,po,none⟩) n c] TH3)) wi:=xE;have f:wi.cell? ⟨b,d,none⟩=some (.int .i64 (u:Int)):=(ME.ext.trans hX).cells.1 _ _ hb |>.trans bf;go_simp;exact hK _ _ ⟨.int .i64 (u:Int),rfl,rfl,Ext.refl _⟩
  refine sS3 [(16,some 25),(18,some 27),(21,some 30)] ?_;refine sC [(16,some 25),(22,some 31)] rfl (fun wi hx=> ?_) ?_
  ·intro a8 p c9 a2 K hK;obtain rfl:=p;obtain rfl:=a2;have hX:Ext (w.alloc (.cells #[aA,aB,.slice (some ⟨pb,po,none⟩) n c] TH3)) wi:=xE;have f:wi.cell? ⟨pb,po+u,none⟩=some (.int .i64 0):=(ME.ext.trans hX).cells.1 _ _ cr |>.trans b7;go_simp;exact hK _ _ ⟨.int .i64 0,rfl,rfl,Ext.refl _⟩
  exact sS2 [(16,some 25),(23,some 32)] (sS2 [(16,some 25),(24,some 33)] StepsL.nil)
 case fin=>
  intro wi hx v0 h0 v1 h1 v2 h2 v3 h3 v4 h4 v5 h5 v6 h6 v7 h7 v8 h8 v9 h9 c4 ay bv ab c5 az di b8 dj b9 dk cc a8 p c6 a0 dl cd dm ce c8 a1 dn cf c9 a2 dp cg dq ch dr ci;obtain rfl:=h0;obtain rfl:=h1;obtain rfl:=h2;obtain rfl:=h3;obtain rfl:=h4;obtain rfl:=h5;obtain rfl:=h6;obtain rfl:=h7;obtain rfl:=h8;obtain rfl:=h9;obtain rfl:=ay;obtain rfl:=ab;obtain rfl:=az;obtain rfl:=b8;obtain rfl:=b9;obtain rfl:=cc;obtain rfl:=p;obtain rfl:=a0;obtain rfl:=cd;obtain rfl:=ce;obtain rfl:=a1;obtain rfl:=cf;obtain rfl:=a2;obtain rfl:=cg;obtain rfl:=ch;obtain rfl:=ci;have hX:Ext (w.alloc (.cells #[aA,aB,.slice (some ⟨pb,po,none⟩) n c] TH3)) wi:=hx.of_drew;have M1:=(ME.adv hX)
  clear ME hX hx;refine wpAny_done (by kernel_rfl) ?_ _;try go_frame
  go_wp2;go_loopw [5] (fun i wr=> ∃(k:Nat),1≤k∧k≤m∧i= .int .i64 (k:Int)∧Mem w wr [aI w.heap.size (w.heap.size) TH3 #[aA,aB,.slice (some ⟨pb,po,none⟩) n c]]) (fun i _=>m-(intOf i).toNat)
  case atStart=>exact⟨1,Nat.le_refl _,by omega,rfl,M1⟩
  case round=>
   clear M1;obtain⟨k,bl,hk,rfl,hM⟩:=hrel;have HM:=hM;clear hM;by_cases hlt:k<m
   ·obtain⟨x,hx⟩: ∃x,ws[k-1]? =some x:=⟨_,List.getElem?_eq_getElem (by rw[al.out];omega)⟩
    obtain⟨y,hy⟩: ∃y,ws[k]? =some y:=⟨_,List.getElem?_eq_getElem (by rw[al.out];omega)⟩
    have ca:wr.cell? ⟨b,d+(k-1),none⟩=some (.int .i64 (x:Int)):=(HM.ext.cells.1 _ _ hb).trans (HS (k-1) x hx);have cb:wr.cell? ⟨b,d+k,none⟩=some (.int .i64 (y:Int)):=(HM.ext.cells.1 _ _ hb).trans (HS k y hy);have t:b<wr.heap.size:=Nat.lt_of_lt_of_le hb HM.ext.sz;have a9:=xQ (bx k x y bl hx hy);clear hx hy;have i1:(0:Int)≤(k:Int):=by omega
    have i2:(k:Int)<(m:Int):=by omega
    have i3:(k:Int)-1<(m:Int):=by omega
    have i4:((k:Int)-1).toNat=k-1:=by omega
    have i5:(1:Int)≤(k:Int):=by omega
    go_wp2;refine rL (gl [gEq (.agg #[aA,aB,.slice (some ⟨pb,po,none⟩) n c]),gEq (.slice (some ⟨b,d,none⟩) m c2),gEq (k:Int),gEq ((k:Int)-1:Int),gEq (.pointer (some ⟨b,d+(k-1),none⟩)),gEq (x:Int),gEq (.slice (some ⟨b,d,none⟩) m c2),gEq (k:Int),gEq (.pointer (some ⟨b,d+k,none⟩)),gEq (y:Int),gEq (.int .i64 1),gEq (.bool false)]) 12 12 [(0,some 41),(1,some 42),(2,some 43),(3,some 44),(4,some 45),(5,some 46),(6,some 47),(7,some 48),(8,some 49),(9,some 50),(10,some 51),(11,some 52)] ?steps ?fin
    case steps=>
     refine sC [] rfl (fun wi hx=> ?_) ?_
     ·intro K hK;have hX:Ext wr wi:=xE;obtain⟨f,bd,be⟩:=((HM.bk 0).ext hX).tri;go_simp;exact hK _ _ ⟨.agg #[aA,aB,.slice (some ⟨pb,po,none⟩) n c],rfl,rfl,Ext.refl _⟩
     refine sS0 [] (sS0 [] ?_);refine sC [(2,some 43)] rfl (fun wi hx=> ?_) ?_
     ·intro v2 h2 K hK;obtain rfl:=h2;have df:IntKind.i64.wrap ((k:Int)-1)=(k:Int)-1:=IntWalk.i64_in _ (by omega);go_simp;exact hK _ _ ⟨.int .i64 ((k:Int)-1),rfl,rfl,Ext.refl _⟩
     refine sS2 [(1,some 42),(3,some 44)] ?_;refine sC [(4,some 45)] rfl (fun wi hx=> ?_) ?_
     ·intro v4 h4 K hK;obtain rfl:=h4;have hX:Ext wr wi:=xE;have f:wi.cell? ⟨b,d+(k-1),none⟩=some (.int .i64 (x:Int)):=(hX.cells.1 _ _ t).trans ca;go_simp;exact hK _ _ ⟨.int .i64 (x:Int),rfl,rfl,Ext.refl _⟩
     refine sS0 [] (sS0 [] (sS2 [(6,some 47),(7,some 48)] ?_));refine sC [(8,some 49)] rfl (fun wi hx=> ?_) ?_
     ·intro v8 h8 K hK;obtain rfl:=h8;have hX:Ext wr wi:=xE;have f:wi.cell? ⟨b,d+k,none⟩=some (.int .i64 (y:Int)):=(hX.cells.1 _ _ t).trans cb;go_simp;exact hK _ _ ⟨.int .i64 (y:Int),rfl,rfl,Ext.refl _⟩
     refine sC [(0,some 41),(5,some 46),(9,some 50)] rfl (fun wi hx=> ?_) ?_
     ·intro v0 h0 v5 h5 v9 h9 K hK;obtain rfl:=h0;obtain rfl:=h5;obtain rfl:=h9;have hX:Ext wr wi:=xE;go_wp2_with fail;refine(a9 _ (HM.ext.trans hX)).mono ?_;rintro e w5 ⟨rfl,ah⟩;go_simp;exact hK _ _ ⟨.int .i64 1,rfl,rfl,ah⟩
     exact sS1 [(10,some 51)] StepsL.nil
    case fin=>
     intro wi hx v0 h0 v1 h1 v2 h2 v3 h3 v4 h4 v5 h5 v6 h6 v7 h7 v8 h8 v9 h9 c4 ay bv ab;obtain rfl:=h0;obtain rfl:=h1;obtain rfl:=h2;obtain rfl:=h3;obtain rfl:=h4;obtain rfl:=h5;obtain rfl:=h6;obtain rfl:=h7;obtain rfl:=h8;obtain rfl:=h9;obtain rfl:=ay;obtain rfl:=ab;have hX:Ext wr wi:=hx.of_drew;have M2:=(HM.adv hX)
     clear HM hX hx ca cb a9;refine wpAny_done (by kernel_rfl) ?_ _;try go_frame
     go_wp2;go_roundw
     case rel=>exact⟨k+1,by omega,by omega,by go_num,M2⟩
     case measure=>simp[intOf];omega
   obtain rfl:m=k:=by omega
   have b0:=(HM.bk 0).tri;obtain⟨h0,h1,h2⟩:=b0;have cu:=(HM.hi 0)
   go_wp2_with fail;clear h0 h1 h2 cu;refine(HK _ HM.ext).mono ?_;rintro e w2 ⟨q0,c0,rfl,o2,br⟩;rw[ap.out]at o2⊢;have M2:=(HM.call br o2)
   clear o2 br HM;obtain⟨g,rfl,cm,cn⟩:=M2.so 0;clear cm cn;have M3:=(M2.c0 TH3 #[aA,aB,.slice (some ⟨g,0,none⟩) n c0])
   have M4:=(show Mem w _ [aJ w.heap.size TI 1 (some ⟨g,0,none⟩) (n) (c0) (ivs (xs)),aJ w.heap.size TSL 2 (none) (0) (0) (([]).flatMap aK),aI w.heap.size (w2.heap.size) TH3 #[aA,aB,.slice (some ⟨g,0,none⟩) n c0],aI w.heap.size (w.heap.size) TH3 #[aA,aB,.slice (some ⟨pb,po,none⟩) n c]]from(M3.ownNew (Ext.refl _) (World.ownsRow_nil _ _ TSL 2) (Nat.le_refl _)).pick [2,0,1,3] (by decide) rfl)
   clear M2 M3;obtain⟨gV,ak⟩: ∃gV,gV=w2.heap.size:=⟨_,rfl⟩
   rw[←ak]at M4;go_wp2;rw[←ak];have db:=xQ ak;clear ak;go_loopw [6,8] (fun v i wr=> ∃(k x:Nat) (rest:List Nat) (ys:List Int) (q5:OA) (l lc:Nat) (sl:List Sl2),1≤k∧k≤m∧i= .int .i64 (k:Int)∧v= .slice q5 l lc∧l=sl.length∧l≤k∧ws.drop (k-1)=x::rest∧aM aA aB ys=true∧ys.length=n∧x<n∧ys.getD x 0=0∧mE aA n x rest∧sl++(cC ys x rest).2=(cC xs u s).2∧Mem w wr [aJ w.heap.size TI 1 (some ⟨g,0,none⟩) (n) (c0) (ivs (ys)),aJ w.heap.size TSL 2 (q5) (l) (lc) (sl.flatMap aK),aI w.heap.size (gV) TH3 #[aA,aB,.slice (some ⟨g,0,none⟩) n c0],aI w.heap.size (w.heap.size) TH3 #[aA,aB,.slice (some ⟨pb,po,none⟩) n c]]) (fun _ i _=>m-(intOf i).toNat)
   case atStart=>exact⟨1,u,s,xs,none,0,0,[],Nat.le_refl _,by omega,rfl,rfl,rfl,by omega,by rw[bz.out];rfl,cq.out,ap.out,hu,ct.out,cs.out,rfl,M4⟩
   case round=>
    clear M4;obtain⟨k,x,rest,ys,q5,l,lc,sl,bl,hk,rfl,rfl,hl,dc,bi,ar,bo,bs,bq,av,au,hM⟩:=hrel;have ai:=xQ bi;have an:=xQ ar;have o:=xQ bo;have bb:=xQ bq;have ao:=xQ av;have aa:=xQ au;have ax:=xQ hl;have HM:=hM;clear bi ar bo bq av au hM hl;by_cases hlt:k<m
    ·obtain⟨y,rest',q⟩: ∃y rest',rest=y::rest':=by
      have h1:=congrArg List.length ai.out;rw[List.length_drop,al.out]at h1;cases rest with
      |nil=>simp at h1;omega
      |cons y r=>exact⟨y,r,rfl⟩
     subst q;have a5:ws[k-1]? =some x:=by have:=congrArg (fun z=>z[0]?) ai.out;simpa using this
     have ad:ws.drop k=y::rest':=by have:=congrArg List.tail ai.out;rw[List.tail_drop,show k-1+1=k by omega]at this;exact this
     have a6:ws[k]? =some y:=by have:=congrArg (fun z=>z[0]?) ad;simpa using this
     have ba:=xQ ad;have aj:y∈aS aA n x:=ao.out.1;have a4:y<n:=(bQ.1 aj).1;have bh:aW aA (x:Int) (y:Int)=1:=(bQ.1 aj).2;have bt: ¬(x=y):=by
      intro e;subst e;have:aW aA (x:Int) (x:Int)=0:=by unfold aW oK;simp
      omega
     have bw:=xQ aj;have ca:wr.cell? ⟨b,d+(k-1),none⟩=some (.int .i64 (x:Int)):=(HM.ext.cells.1 _ _ hb).trans (HS (k-1) x a5);have cb:wr.cell? ⟨b,d+k,none⟩=some (.int .i64 (y:Int)):=(HM.ext.cells.1 _ _ hb).trans (HS k y a6);have t:b<wr.heap.size:=Nat.lt_of_lt_of_le hb HM.ext.sz;have b1:=xQ a5;have b2:=xQ a6;clear ad aj a5 a6 bh;obtain⟨z,hz⟩: ∃z,z=ys.getD y 0:=⟨_,rfl⟩
     have HZ:=xQ hz;have cy:wr.cell? ⟨g,y,none⟩=some (.int .i64 z):=by have h1:=(dD (D:=ys) (v:=y) (by rw[o.out];exact a4)).1;rw[←hz]at h1;have:=(HM.ow 0).cellAt y (by omega);rw[this];simp only[ivs,List.getElem?_map,h1,Option.map_some]
     clear hz;have v2:=(HM.bk 2).cl 2;have am:=(HM.hi 2)
     have i1:(0:Int)≤(k:Int):=by omega
     have i2:(k:Int)<(m:Int):=by omega
     have i3:(k:Int)-1<(m:Int):=by omega
     have i4:((k:Int)-1).toNat=k-1:=by omega
     have i5:(1:Int)≤(k:Int):=by omega
     have i6:(0:Int)≤(y:Int):=by omega
     have i7:(y:Int)<(n:Int):=by omega
     have i8:(0:Int)≤(x:Int):=by omega
     have i9:(x:Int)<(n:Int):=by omega
     have dg:(0:Int)≤(k:Int)-1:=by omega
     have dh:IntKind.i64.wrap ((k:Int)-1)=(k:Int)-1:=IntWalk.i64_in _ (by omega);go_upto_block 3 with fail;go_cut [6,8]from 61 to 105 (fun s6 s8 wx=> ∃(ys':List Int) (q':OA) (l' lc':Nat) (sl':List Sl2),s6= .slice q' l' lc'∧s8= .int .i64 (k:Int)∧l'=sl'.length∧l'≤k+1∧aM aA aB ys'=true∧ys'.length=n∧ys'.getD y 0=0∧sl'++(cC ys' y rest').2=(cC xs u s).2∧Mem w wx [aJ w.heap.size TI 1 (some ⟨g,0,none⟩) (n) (c0) (ivs (ys')),aJ w.heap.size TSL 2 (q') (l') (lc') (sl'.flatMap aK),aI w.heap.size (gV) TH3 #[aA,aB,.slice (some ⟨g,0,none⟩) n c0],aI w.heap.size (w.heap.size) TH3 #[aA,aB,.slice (some ⟨pb,po,none⟩) n c]])
     case first=>
      go_wp2;go_quiet (fail);generalize ag:World.drewN _ _=wq;have MQ:=(show Mem w wq [aJ w.heap.size TI 1 (some ⟨g,0,none⟩) (n) (c0) (ivs (ys)),aJ w.heap.size TSL 2 (q5) (l) (lc) (sl.flatMap aK),aI w.heap.size (gV) TH3 #[aA,aB,.slice (some ⟨g,0,none⟩) n c0],aI w.heap.size (w.heap.size) TH3 #[aA,aB,.slice (some ⟨pb,po,none⟩) n c]]from by rw[←ag];exact HM.adv xE)
      have b4:wq.cell? ⟨b,d+(k-1),none⟩=some (.int .i64 (x:Int)):=by rw[←ag];simpa using ca
      have b6:wq.cell? ⟨b,d+k,none⟩=some (.int .i64 (y:Int)):=by rw[←ag];simpa using cb
      have cj:b<wq.heap.size:=by rw[←ag];simpa using t
      clear ag HM ca cb cy v2 am t;by_cases hz0:z=0
      ·have t0:(z !=0)=false:=by simp[hz0]
       have bc:=xQ (show ys.getD y 0=0 by rw[←HZ.out];exact hz0);have hr:=xQ (pB (a:=x) (l:=rest') bc.out);clear hz0;go_wp2_with fail;go_meet
       case rel=>exact⟨ys,q5,l,lc,sl,rfl,rfl,ax.out,by omega,an.out,o.out,bc.out,by rw[←aa.out,hr.out],MQ⟩
      have t0:(z !=0)=true:=by simp[hz0]
      have a7: ¬ys.getD y 0=0:=by rw[←HZ.out];exact hz0
      obtain⟨n1,n2,n3⟩:=rJ an (by rw[o.out];exact bs) bb (by rw[o.out];exact bw.out) a7;have a3:=nJ (a:=x) (l:=rest') a7;rw[←HZ.out]at n1 n2 n3 a3;have hr:=xQ a3;have N1:=xQ n1;have N2:=xQ n2;have N3:=xQ n3;clear n1 n2 n3 hz0 a7 a3;go_wp2_with fail
      go_region_held3 (fun w'=>w'.cell? ⟨b,d+k,none⟩=some (.int .i64 (y:Int))∧w'.cell? ⟨b,d+(k-1),none⟩=some (.int .i64 (x:Int))) (first|(refine⟨?_,?_⟩<;>assumption)|go_keep) (first
       |(refine fL oD (by rfl) _ _ (by rfl) (MQ.adv (by first|exact(Ext.refl _).alloc _|exact Ext.drew ((Ext.refl _).alloc _)|exact xE)) 1 (by rfl) (by rfl) (aK ((y:Int),(x:Int))) (by rfl) (by first|exact dJ _ _ _ 1 2 _ (by simp) (by simp) (by simp[maxLen])|exact(dJ wq #[(y:Int),(x:Int)] TSL 1 2 _ (by simp) (by simp) (by simp[maxLen])).ext (Ext.drew (Ext.refl _))) (mG _ _) (by omega) ?_
         intro q7 c7 w6 M6;have M7:=(show Mem w w6 [aJ w.heap.size TI 1 (some ⟨g,0,none⟩) (n) (c0) (ivs (ys)),aJ w.heap.size TSL 2 (q7) (l+1) (c7) ((sl++ [((y:Int),(x:Int))]).flatMap aK),aI w.heap.size (gV) TH3 #[aA,aB,.slice (some ⟨g,0,none⟩) n c0],aI w.heap.size (w.heap.size) TH3 #[aA,aB,.slice (some ⟨pb,po,none⟩) n c]]from by have h:=M6;simpa only[List.set_cons_zero,List.set_cons_succ,List.flatMap_append,List.flatMap_cons,List.flatMap_nil,List.append_nil]using h)
         clear M6;have b5:w6.cell? ⟨b,d+k,none⟩=some (.int .i64 (y:Int)):=(M7.ext.cells.1 _ _ hb).trans (HS k y b2.out)
         have b3:w6.cell? ⟨b,d+(k-1),none⟩=some (.int .i64 (x:Int)):=(M7.ext.cells.1 _ _ hb).trans (HS (k-1) x b1.out)))
      clear MQ b4 b6 cj;have v2:=(M7.bk 2).cl 2;have am:=(M7.hi 2)
      have ck:b<w6.heap.size:=Nat.lt_of_lt_of_le hb M7.ext.sz;have cy:w6.cell? ⟨g,y,none⟩=some (.int .i64 z):=by have h1:=(dD (D:=ys) (v:=y) (by rw[o.out];exact a4)).1;rw[←HZ.out]at h1;have:=(M7.ow 0).cellAt y (by omega);rw[this];simp only[ivs,List.getElem?_map,h1,Option.map_some]
      have cx:w6.cell? ⟨g,x,none⟩=some (.int .i64 0):=by have h1:=(dD (D:=ys) (v:=x) (by rw[o.out];exact bs)).1;rw[bb.out]at h1;have:=(M7.ow 0).cellAt x (by omega);rw[this];simp only[ivs,List.getElem?_map,h1,Option.map_some]
      have fy:w6.frozen? ⟨g,y,none⟩=false:=(M7.ow 0).frozenAt y;have fx:w6.frozen? ⟨g,x,none⟩=false:=(M7.ow 0).frozenAt x;have bu: ¬(g=gV):=M7.ne (i:=0) (j:=2) (by omega) rfl rfl rfl rfl;have cv: ¬(gV=g):=fun e=>bu e.symm
      have co:w.heap.size≤g:=(M7.lt (i:=0) rfl rfl).1;have cw: ¬(g=b):=by omega
      have cz: ¬(b=g):=by omega
      have c1: ¬(x=y):=bt;have c3: ¬(y=x):=fun e=>bt e.symm
      go_upto_region 15 with fail;go_region;clear v2 am ck cy cx fy fx bu cv co cw cz c1 c3 b3 b5;have MX:=(show Mem w ((w6.setCell ⟨g,x,none⟩ (.int .i64 z)).setCell ⟨g,y,none⟩ (.int .i64 0)) [aJ w.heap.size TI 1 (some ⟨g,0,none⟩) (n) (c0) (ivs ((ys.set x z).set y 0)),aJ w.heap.size TSL 2 (q7) (l+1) (c7) ((sl++ [((y:Int),(x:Int))]).flatMap aK),aI w.heap.size (gV) TH3 #[aA,aB,.slice (some ⟨g,0,none⟩) n c0],aI w.heap.size (w.heap.size) TH3 #[aA,aB,.slice (some ⟨pb,po,none⟩) n c]]from by rw[←dR,←dR];exact(M7.ostore (i:=0) rfl x (.int .i64 z)).ostore (i:=0) rfl y (.int .i64 0))
      have MY:=(MX.adv (Ext.drew (Ext.refl _)))
      generalize bp:World.drew _=w8;rw[bp]at MY;clear bp MX M7;go_wp2_with fail;go_meet
      case rel=>exact⟨(ys.set x z).set y 0,q7,l+1,c7,sl++ [((y:Int),(x:Int))],rfl,rfl,by rw[List.length_append,←ax.out];rfl,by omega,N1.out,by rw[N2.out,o.out],N3.out,by rw[←aa.out,hr.out];simp,MY⟩
     case rest=>
      obtain⟨ys',q',l',lc',sl',rfl,rfl,bm,da,aq,ae,aw,af,bg⟩:=hcut;have h1:=xQ bm;have h2:=xQ aq;have h3:=xQ ae;have h4:=xQ aw;have h5:=xQ af;have h6:=xQ bg;clear bm aq ae aw af bg HM ca cb cy v2 am t;go_wp2;go_roundw
      case rel=>exact⟨k+1,y,rest',ys',q',l',lc',sl',by omega,by omega,by go_num,rfl,h1.out,by omega,by rw[Nat.add_sub_cancel];exact ba.out,h2.out,h3.out,a4,h4.out,ao.out.2,h5.out,h6.out⟩
      case measure=>simp[intOf];omega
    obtain rfl:m=k:=by omega
    have q:rest= []:=by
     have h1:=congrArg List.length ai.out;rw[List.length_drop,al.out]at h1;cases rest with
     |nil=>rfl
     |cons y r=>simp at h1;omega
    subst q;have bj:Hid (sl=(cC xs u s).2):=by show _=_;rw[←aa.out];simp[cC]
    go_wp2;go_ret;have cp:=ax.out;subst cp;rw[←bj.out];exact⟨q5,lc,rfl,HM.ow 1,HM.ext⟩
theorem aL4 (aA aB:Int)(p:OA)(n a:Nat)(xs:List Int)(lq:OA)(m lc u:Nat)(w:World)(hS:Sl w p n a 1 (ivs xs))(f:aM aA aB xs=true)(hu:u<n)(g:xs.getD u 0=0)
  (hL:Sl w lq m lc 1 (ivs (bF (cX aA n 12 u)))):
  Calls Tryz.prog 188 #[aH aA aB p n a,.slice lq m lc] w (eY (cC xs u (cX aA n 12 u).tail).2 w):=by
 have hl:=hS.ilen;subst hl;have hg:=jE f;obtain⟨g1,g2,g3,g4,g5,g6,g7⟩:=bZ (cM f);obtain⟨k1,k2,k3⟩:=iM hg hu;have hm:=hL.ilen;rw[List.length_map]at hm;obtain⟨pb,po,rfl,l,o⟩:=hS.rd (by omega);obtain⟨b,h,rfl,hb,hc⟩:=hL.rd (by omega);have c: ∀(k x:Nat),(cX aA xs.length 12 u)[k]? =some x→w.cell? ⟨b,h+k,none⟩=some (.int .i64 (x:Int)):=by intro k x hx;have hk:=(List.getElem?_eq_some_iff.1 hx).1;rw[hc k (by omega)];simp[ivs,bF,hx]
 have d:=tM aA xs.length 12 u;have q:w.cell? ⟨b,h,none⟩=some (.int .i64 (u:Int)):=c 0 u (by rw[d];rfl);have i:w.cell? ⟨pb,po+u,none⟩=some (.int .i64 0):=by rw[o u (by omega)];rw[List.getD_eq_getElem?_getD,List.getElem?_eq_getElem hu]at g;simp only[Option.getD_some]at g;simp[ivs,hu,g]
 have HV: ∀w',Ext w w'→Calls Tryz.prog 53 #[aH aA aB (some ⟨pb,po,none⟩) xs.length a] w' fun e w''=>e= .returned (.bool true)∧Ext w' w'':=fun w' hy=>by have:=fI aA aB _ xs.length a xs w' (hS.ext hy);rwa[f]at this
 have HH: ∀w',Calls Tryz.prog 149 #[aH aA aB (some ⟨pb,po,none⟩) xs.length a,(u:Int)] w' fun e w''=>e= .returned (.bool true)∧Ext w' w'':=fun w'=>by have:=iI aA aB (u:Int) (some ⟨pb,po,none⟩) xs.length a w' (by omega);rwa[decide_eq_true (⟨by omega,by omega⟩:0≤(u:Int)∧(u:Int)<xs.length)]at this
 refine aIj aA aB pb po xs.length a xs b h m lc u (cX aA xs.length 12 u).tail (cX aA xs.length 12 u) w g5 g6 (by omega) (by omega) d hm hb l f rfl hu g (qS hg 12 u hu) c q i HV HH ?_
  (fun w' hy=>kN aA aB _ xs.length a xs w' (by omega) (hS.ext hy))
 intro k x y hk hx hy w' hw;obtain⟨k,rfl⟩: ∃j,k=j+1:=⟨k-1,by omega⟩
 rw[Nat.add_sub_cancel]at hx;have h2:=rX hg 12 u k x y hu hx hy;have r:=aDz hg 12 u x hu (List.mem_of_getElem? hx);have h3:=bQ.1 h2.2;have:=aL9 aA aB x y _ xs.length a xs w' (hS.ext hw) f r h3.1;rwa[h3.2]at this
def eE (aA aB:Int)(xs:List Int)(l:List Sl2):List Int:=l.foldl (fun ys s=>bH aA aB ys s.1 s.2) xs
theorem aBa (aA aB:Int)(xs:List Int)(l:List Sl2)(s:Sl2):eE aA aB xs (l++ [s])=bH aA aB (eE aA aB xs l) s.1 s.2:=by simp[eE]
theorem wV {aA aB:Int}: ∀(l:List Sl2) (xs:List Int),aM aA aB xs=true→aM aA aB (eE aA aB xs l)=true∧(eE aA aB xs l).length=xs.length:=by
 intro l;induction l with
 |nil=>intro xs h;exact⟨h,rfl⟩
 |cons s l ih=>intro xs h;have:=ih (bH aA aB xs s.1 s.2) (gZ _ _ h);exact⟨this.1,by rw[show eE aA aB xs (s::l)=eE aA aB (bH aA aB xs s.1 s.2) l from rfl,this.2,cT]⟩
theorem aAu (aA aB:Int)(p:OA)(n a:Nat)(xs:List Int)(lq:OA)(m lc:Nat)(l:List Sl2)(w:World)(aj:Hid (l.length=m))(u:Hid (xs.length=n))(ae:Hid (aM aA aB xs=true))(z:Hid (Sl w lq m lc 2 (l.flatMap aK)))
  (HK:xC 79 #[aH aA aB p n a] w fun w' e w''=> ∃q c,e= .returned (aH aA aB q n c)∧w''.ownsRow w'.heap.size TI 1 (.slice q n c) n (ivs xs)∧Ext w' w''):
  Calls Tryz.prog 144 #[aH aA aB p n a,.slice lq m lc] w (cY aA aB (eE aA aB xs l) w):=by
 have az:=z.out.bd;go_enter Tryz.func144,Tryz.ntmps144;go_wp2_with fail;refine(HK _ (((Mem.start w).c0 TH3 #[aA,aB,.slice p n a]).c1 TH3 #[(),(),((),())]).ext).mono ?_;rintro e w1 ⟨q0,c0,rfl,ab,af⟩;have M1:=((((Mem.start w).c0 TH3 #[aA,aB,.slice p n a]).c1 TH3 #[(),(),((),())]).call af ab)
 have x:=M1.hi 1;have y:=M1.hi 2;clear af ab;have M2:=(show Mem w _ [aJ w.heap.size TI 1 (q0) (n) (c0) (ivs (xs)),aI w.heap.size (w1.heap.size) TH3 #[aA,aB,.slice q0 n c0],aI w.heap.size (w.heap.size+1) TH3 #[(),(),((),())],aI w.heap.size (w.heap.size) TH3 #[aA,aB,.slice p n a]]from(M1.c0 TH3 #[aA,aB,.slice q0 n c0]).pick [1,0,2,3] (by decide) rfl)
 clear M1 x y;obtain⟨gV,o⟩: ∃gV,gV=w1.heap.size:=⟨_,rfl⟩
 rw[←o]at M2;go_wp2;rw[←o];have ay:=xQ o;clear o;go_loopw [12] (fun i wr=> ∃(k:Nat) (q:OA) (c:Nat),k≤m∧i= .int .i64 (k:Int)∧Mem w wr [aJ w.heap.size TI 1 (q) (n) (c) (ivs (eE aA aB xs (l.take k))),aI w.heap.size (gV) TH3 #[aA,aB,.slice q n c],aI w.heap.size (w.heap.size+1) TH3 #[(),(),((),())],aI w.heap.size (w.heap.size) TH3 #[aA,aB,.slice p n a]]) (fun i _=>m-(intOf i).toNat)
 case atStart=>exact⟨0,q0,c0,Nat.zero_le _,rfl,M2⟩
 case round=>
  clear M2;obtain⟨k,q,c,hk,rfl,hM⟩:=hrel;have HM:=hM;clear hM;by_cases hlt:k<m
  ·obtain⟨b,a0,f,t,ak,hx,hb,ah,ai⟩:=zZ (z.out.ext HM.ext) hlt;subst ak;have i1:(0:Int)≤(k:Int):=by omega
   have i2:(k:Int)<(m:Int):=by omega
   have al:Hid (eE aA aB xs (l.take (k+1))=bH aA aB (eE aA aB xs (l.take k)) f t):=by show _=_;rw[bA hx,aBa]
   clear hx;obtain⟨d1,d2⟩:=wV (l.take k) xs ae.out;have HD:xC 49 #[aH aA aB q n c,dQ f t] wr fun w' e w''=> ∃q' c',e= .returned (.tuple #[aH aA aB q' n c',.bool (bB aA aB (eE aA aB xs (l.take k)) f t)])∧w''.ownsRow w'.heap.size TI 1 (.slice q' n c') n (ivs (eE aA aB xs (l.take (k+1))))∧Ext w' w'':=fun w' hx=>by
    refine(wN aA aB f t q n c _ w' ((HM.sq 0).ext hx) d1).mono ?_;rintro e w'' ⟨q',c',h1,h2,h3⟩;have hl:(bH aA aB (eE aA aB xs (l.take k)) f t).length=n:=by rw[cT,d2,u.out]
    rw[hl]at h1 h2;exact⟨q',c',h1,by rw[al.out];exact h2,h3⟩
   clear d1 d2;have g:gV<wr.heap.size:=(HM.hi 1)
   have h:w.heap.size+1<wr.heap.size:=(HM.hi 2)
   have j:w.heap.size<wr.heap.size:=(HM.hi 3)
   obtain⟨v0,v1,v2⟩:=(HM.bk 1).tri;go_wp2_with fail;clear v0 v1 v2 ah ai;refine(HD _ ((Ext.refl _).alloc _)).mono ?_;rintro e w6 ⟨q6,c6,rfl,ad,ag⟩;have M6:=((HM.c0 TSL #[f,t]).call ag ad)
   clear HM g h j ag ad;have am:=M6.hi 1;have an:=M6.hi 3;have ao:=M6.hi 4;have ap:=M6.hi 5;obtain⟨v0,aq,v1,ar,v2,au⟩:=(M6.bk 3).trif;go_wp2;have M7:=((M6.st 3 0 (.int .i64 aA)).st 3 1 (.int .i64 aB))
   have M8:=(M7.st 3 2 (.slice q6 n c6))
   have M9:=(show Mem w (((w6.setCell ⟨gV,0,none⟩ (.int .i64 aA)).setCell ⟨gV,1,none⟩ (.int .i64 aB)).setCell ⟨gV,2,none⟩ (.slice q6 n c6)) [aJ w.heap.size TI 1 (q6) (n) (c6) (ivs (eE aA aB xs (l.take (k+1)))),aI w.heap.size (wr.heap.size) TSL #[f,t],aJ w.heap.size TI 1 (q) (n) (c) (ivs (eE aA aB xs (l.take k))),aI w.heap.size (gV) TH3 #[aA,aB,.slice q6 n c6],aI w.heap.size (w.heap.size+1) TH3 #[(),(),((),())],aI w.heap.size (w.heap.size) TH3 #[aA,aB,.slice p n a]]from M8)
   generalize d:World.setCell _ _ _=wz;rw[d]at M9;clear d M6 M7 M8 v0 aq v1 ar v2 au;go_roundw
   case rel=>exact⟨k+1,q6,c6,by omega,by go_num,(M9.pick [0,3,4,5] (by decide) rfl)⟩
   case measure=>simp[intOf];omega
  obtain rfl:m=k:=by omega
  have aa:Hid (eE aA aB xs (l.take m)=eE aA aB xs l):=by show _=_;rw[←aj.out,List.take_length]
  rw[aa.out]at HM;have g:gV<wr.heap.size:=(HM.hi 1)
  have h:w.heap.size+1<wr.heap.size:=(HM.hi 2)
  have j:w.heap.size<wr.heap.size:=(HM.hi 3)
  obtain⟨v0,v1,v2⟩:=(HM.bk 1).tri;obtain⟨z0,av,z1,aw,z2,ax⟩:=(HM.bk 2).trif;obtain⟨r,s⟩:=HM.nq 1 2;go_wp2;have M6:=((HM.st 2 0 (.int .i64 aA)).st 2 1 (.int .i64 aB))
  have M7:=(M6.st 2 2 (.slice q n c))
  have M8:=(show Mem w (((wr.setCell ⟨w.heap.size+1,0,none⟩ (.int .i64 aA)).setCell ⟨w.heap.size+1,1,none⟩ (.int .i64 aB)).setCell ⟨w.heap.size+1,2,none⟩ (.slice q n c)) [aJ w.heap.size TI 1 (q) (n) (c) (ivs (eE aA aB xs l)),aI w.heap.size (gV) TH3 #[aA,aB,.slice q n c],aI w.heap.size (w.heap.size+1) TH3 #[aA,aB,.slice q n c],aI w.heap.size (w.heap.size) TH3 #[aA,aB,.slice p n a]]from M7)
  generalize d:World.setCell _ _ _=wz;rw[d]at M8;clear d HM M6 M7 v0 v1 v2 z0 av z1 aw z2 ax r s;obtain⟨y0,y1,y2⟩:=(M8.bk 2).tri;exact bodyPost_ret (v:=aH aA aB q n c) (by simp[results,Tryz.results144,go_sem, *]) rfl (pP (by exact(wV l xs ae.out).2.trans u.out) (M8.ow 0) M8.ext)
theorem wP (aA aB:Int)(p:OA)(n a:Nat)(xs:List Int)(lq:OA)(m lc:Nat)(l:List Sl2)(w:World)(c:l.length=m)(hS:Sl w p n a 1 (ivs xs))(b:aM aA aB xs=true)(hL:Sl w lq m lc 2 (l.flatMap aK)):
  Calls Tryz.prog 144 #[aH aA aB p n a,.slice lq m lc] w (cY aA aB (eE aA aB xs l) w):=by
 have hl:=hS.ilen;subst hl;obtain⟨g1,g2,g3,g4,g5,g6,g7,g8,g9⟩:=bM b;exact aAu aA aB p xs.length a xs lq m lc l w c rfl b hL (fun w' hx=>kN aA aB p xs.length a xs w' (by omega) (hS.ext hx))
theorem aIn (aA aB:Int)(p:OA)(n b F:Nat)(fr:List Nat)(xs:List Int)(w:World)(hg:Hid ((aA,n)∈gU))(hF:Hid (fr.length=F))(aj:F≤12)(g:Hid (∀x∈fr,x<n))
  (HF:xC 186 #[aH aA aB p n b] w fun w' e w''=> ∃q c,e= .returned (.slice q F c)∧w''.ownsRow w'.heap.size TI 1 (.slice q F c) F (ivs (bF fr))∧Ext w' w'')
  (o:Hid (∀(u:Nat),u<n→ ∀w',Ext w w'→Calls Tryz.prog 187 #[aH aA aB p n b,(u:Int),(),(-1:Int)] w' (aX (bF (cX aA n 12 u)) w')))
  (ae:Hid (∀(u:Nat),cQ aA fr=some u→ ∀w' q W c,Ext w w'→Sl w' q W c 1 (ivs (bF (cX aA n 12 u)))→Calls Tryz.prog 188 #[aH aA aB p n b,.slice q W c] w' (eY (cC xs u (cX aA n 12 u).tail).2 w'))):
  Calls Tryz.prog 142 #[aH aA aB p n b] w (nR ((cQ aA fr).map fun u=>cC xs u (cX aA n 12 u).tail) w):=by
 have ao: ∀(w:World) (a:OA) (n c n' c':Nat),(binOp .eql 23 (.slice a n c) (.slice none n' c')).run Tryz.prog w= .ok (.bool a.isNone) w:=fun w a n c n' c'=>Lib.run_eql_slice_nil w _ _ a n c n' c' Tryz.underlying23
 go_enter Tryz.func142,Tryz.ntmps142;go_wp2_with fail;refine(HF _ ((Mem.start w).c0 TH3 #[aA,aB,.slice p n b]).ext).mono ?_;rintro e w1 ⟨q1,c1,rfl,z,ab⟩;have M1:=(((Mem.start w).c0 TH3 #[aA,aB,.slice p n b]).call ab z)
 have ai:=M1.hi 1;clear ab z;have M2:=(show Mem w w1 [aJ w.heap.size TI 1 (none) (0) (0) (ivs (bF (jI aA n (cQ aA (fr.take 0))))),aJ w.heap.size TI 1 (q1) (F) (c1) (ivs (bF fr)),aI w.heap.size (w.heap.size) TH3 #[aA,aB,.slice p n b]]from(M1.ownNew (Ext.refl _) (World.ownsRow_nil _ _ TI 1) (Nat.le_refl _)))
 clear M1;go_wp2;go_loopw [4,11] (fun v i wr=> ∃(k:Nat) (qb:OA) (l lb:Nat),k≤F∧i= .int .i64 (k:Int)∧v= .slice qb l lb∧l=(jI aA n (cQ aA (fr.take k))).length∧qb.isNone=decide (l=0)∧Mem w wr [aJ w.heap.size TI 1 (qb) (l) (lb) (ivs (bF (jI aA n (cQ aA (fr.take k))))),aJ w.heap.size TI 1 (q1) (F) (c1) (ivs (bF fr)),aI w.heap.size (w.heap.size) TH3 #[aA,aB,.slice p n b]]) (fun _ i _=>F-(intOf i).toNat)
 case atStart=>exact⟨0,none,0,0,Nat.zero_le _,rfl,rfl,rfl,rfl,M2⟩
 case round=>
  clear M2;obtain⟨k,qb,l,lb,hk,rfl,rfl,hl,aa,hM⟩:=hrel;have HM:=hM;have d:=xQ hl;have HQ:=xQ aa;have an:l≤6:=by rw[hl];exact vU hg.out (fun x hx=>g.out x (List.mem_of_mem_take hx))
  have y:w.heap.size<wr.heap.size:=(HM.hi 2)
  clear hM hl aa;by_cases hlt:k<F
  ·obtain⟨u,hu⟩: ∃u,fr[k]? =some u:=⟨_,List.getElem?_eq_getElem (by rw[hF.out];exact hlt)⟩
   have f:u<n:=g.out u (List.mem_of_getElem? hu);obtain⟨gf,rfl,al,am⟩:=HM.so 1;have cu:wr.cell? ⟨gf,k,none⟩=some (.int .i64 (u:Int)):=by have:=(HM.ow 1).cellAt k (by omega);rw[this];simp[ivs,bF,hu]
   obtain⟨h,j⟩:=wK hg.out (l:=fr.take k) (fun x hx=>g.out x (List.mem_of_mem_take hx)) f;rw[←bA hu,←d.out]at h j;obtain⟨k1,k2,k3⟩:=iM hg.out f;obtain⟨W,hW⟩: ∃W,W=(cX aA n 12 u).length:=⟨_,rfl⟩
   rw[←hW]at k1 k2 h j;have r:=xQ h;have af:=xQ j;have m:=xQ hW;have HC:=xQ (fun w' (hx:Ext w w')=>o u f w' hx);clear hu h j hW k3;have i1:(0:Int)≤(k:Int):=by omega
   have i2:(k:Int)<(F:Int):=by omega
   obtain⟨b0,b1,b2⟩:=(HM.bk 2).tri;go_wp2_with fail;clear b0 b1 b2 cu;refine(HC _ HM.ext).mono ?_;rintro e w5 ⟨q7,c7,rfl,o7,ad⟩;have ag:(bF (cX aA n 12 u)).length=W:=by rw[m.out];simp[bF]
   rw[ag]at o7⊢;have M5:=(HM.call ad o7)
   clear o7 ad HM HC y;obtain⟨g7,rfl,s,t⟩:=M5.some (i:=0) rfl k1;clear s t;by_cases h0:l=0
   ·have hn:=xQ (r (.inl h0));have hq:qb.isNone=true:=by rw[HQ.out,h0];rfl
    clear h0;go_wp2;go_roundw
    case rel=>exact⟨k+1,some ⟨g7,0,none⟩,W,c7,by omega,by go_num,rfl,by rw[hn.out];exact m.out,by simp;omega,by rw[hn.out];exact M5.pick [0,2,3] (by decide) rfl⟩
    case measure=>simp[intOf];omega
   have hq:qb.isNone=false:=by rw[HQ.out];simp[h0]
   by_cases h1:W<l
   ·have t1:decide ((W:Int)<(l:Int))=true:=by first|(simp;done)|(simp;omega)
    have hn:=xQ (r (.inr h1));have t2:(W:Int)<(l:Int):=by omega
    have t3:decide (W<l)=true:=by simp[h1]
    clear h0;go_wp2;go_roundw
    case rel=>exact⟨k+1,some ⟨g7,0,none⟩,W,c7,by omega,by go_num,rfl,by rw[hn.out];exact m.out,by simp;omega,by rw[hn.out];exact M5.pick [0,2,3] (by decide) rfl⟩
    case measure=>simp[intOf];omega
   have t1:decide ((W:Int)<(l:Int))=false:=by first|(simp;done)|(simp;omega)
   have hn:=xQ (af (by omega));have t2: ¬((W:Int)<(l:Int)):=by omega
   have t3:decide (W<l)=false:=by simp[h1]
   clear h0;go_wp2;go_roundw
   case rel=>exact⟨k+1,qb,l,lb,by omega,by go_num,rfl,by rw[hn.out];exact d.out,HQ.out,by rw[hn.out];exact M5.pick [1,2,3] (by decide) rfl⟩
   case measure=>simp[intOf];omega
  obtain rfl:F=k:=by omega
  rw[show fr.take F=fr by rw[←hF.out];exact List.take_length]at HM d;obtain⟨b0,b1,b2⟩:=(HM.bk 2).tri;cases hne:cQ aA fr with
  |none=>
   have hq:qb.isNone=true:=by rw[HQ.out,d.out,hne];rfl
   have hE:=xQ HM.ext;clear HM d;go_wp2;exact bodyPost_ret (v:= .tuple #[((),()),.bool false]) (by simp[results,Tryz.results142,go_sem, *]) rfl (by rw[hne];exact⟨_,rfl,by have:=hE.out;exact xE⟩)
  |some u=>
   have f:u<n:=g.out u ((iG aA fr).2 u hne);obtain⟨k1,k2,k3⟩:=iM hg.out f;rw[hne]at HM d;have hq:qb.isNone=false:=by rw[HQ.out,d.out];exact decide_eq_false (by show¬(cX aA n 12 u).length=0;omega)
   have HH:=xQ (ae u hne);have ak:=xQ k1;clear k1 k2 k3;go_wp2_with fail;clear b0 b1 b2;refine(HH _ qb l lb HM.ext (HM.sq 0)).mono ?_;rintro e w9 ⟨q9,c9,rfl,o9,ah⟩;have HX:=xQ HM.ext;clear HM;go_wp2;exact bodyPost_ret (v:= .tuple #[.slice q9 (cC xs u (cX aA n 12 u).tail).2.length c9,.bool true]) (by simp[results,Tryz.results142,go_sem, *]) rfl (by rw[hne];exact⟨q9,c9,rfl,bE o9 HX.out.sz,HX.out.trans ah⟩)
theorem aL8 (aA aB:Int)(p:OA)(n a:Nat)(xs:List Int)(w:World)(hS:Sl w p n a 1 (ivs xs))(b:aM aA aB xs=true):
  Calls Tryz.prog 142 #[aH aA aB p n a] w (nR (gJ aA xs) w):=by
 have hl:=hS.ilen;subst hl;have hg:=jE b;obtain⟨g1,g2,g3,g4,g5,g6,g7,g8,g9⟩:=bM b;have f:(bJ xs).length≤xs.length:=by unfold bJ;exact Nat.le_trans (List.length_filter_le _ _) (by simp)
 refine aIn aA aB p xs.length a (bJ xs).length (bJ xs) xs w hg rfl (by omega) (fun x hx=>(jF hx).1) (fun w' hx=> ?_) (fun u hu w' hx=>aL0 aA aB p xs.length a u xs w' (hS.ext hx) b hu) (fun u hne w' q W c hx hL=> ?_)
 ·have:=aL6 aA aB p xs.length a xs w' (hS.ext hx);rw[if_pos b,qK]at this;refine this.mono fun e w'' h1=> ?_
  obtain⟨q,c,h2,h3,h4⟩:=h1;rw[List.length_map]at h2 h3;exact⟨q,c,h2,h3,h4⟩
 obtain⟨hu,d⟩:=jF ((iG aA _).2 u hne);exact aL4 aA aB p xs.length a xs q W c u w' (hS.ext hx) b hu d hL
end Go.Proofs.YtpelpnfhbepokaaGreatDoor
