/-
  Texts of this proof, packed (@packed).
-/
import Derived.Test.YtbgkcehffiogcaaGreatDoorV27
namespace Go.Proofs.YtbgkcehffiogcaaGreatDoor
open Go.RowKit Go.Proofs.Tryz
set_option linter.unusedSimpArgs false
set_option linter.unusedVariables false
set_option maxHeartbeats 8000000
set_option maxRecDepth 100000
theorem aGv (aA aB:Int)(pb po:Nat)(n c:Nat)(xs:List Int)(b d m c2 u:Nat)(s ws:List Nat)(w:World)(c9:4≤n)(hn:n≤12)(c8:0<m)(hm:m≤12)(bx:Hid (ws=u::s))(aj:Hid (ws.length=m))(hb:b<w.heap.size)(co:pb<w.heap.size)
  (cn:Hid (aN aA aB xs=true))(an:Hid (xs.length=n))(hu:u<n)(cq:Hid (xs.getD u 0=0))(cp:Hid (lQ aA n u s))
  (HS:Hid (∀(k x:Nat),ws[k]? =some x→w.cell? ⟨b,d+k,none⟩=some (I x))) (be:w.cell? ⟨b,d,none⟩=some (I u)) (b6:w.cell? ⟨pb,po+u,none⟩=some (I 0))
  (HV:xB 41 #[aH aA aB (some ⟨pb,po,none⟩) n c] w true)
  (HH:Hid (∀w',U 110 #[aH aA aB (some ⟨pb,po,none⟩) n c,u] w' (O (.bool true) w')))
  (bw:Hid (∀(k x y:Nat),1≤k→ws[k-1]? =some x→ws[k]? =some y→ ∀w',Ext w w'→U 170 #[aH aA aB (some ⟨pb,po,none⟩) n c,x,y] w' (O (I 1) w')))
  (HK:Hid (∀w',Ext w w'→U 52 #[aH aA aB (some ⟨pb,po,none⟩) n c] w' (cP aA aB xs w'))):
  U 137 #[aH aA aB (some ⟨pb,po,none⟩) n c,.slice (some ⟨b,d,none⟩) m c2] w (eL (bW xs u s).2 w):=by
 have j1:(0:Int)≤(u:Int):=by omega
 have j2:(u:Int)<(n:Int):=by omega
 have j4:((m:Int)==0)=false:=by first|(simp;done)|(simp;omega)
 go_enter func137,ntmps137;have ME:=((Mem.start w).c0 TH3 #[aA,aB,.slice (some ⟨pb,po,none⟩) n c])
 go_wp2;refine rL (gl [gEq (.agg #[aA,aB,.slice (some ⟨pb,po,none⟩) n c]),gEq (.bool true),gEq (.bool false),gEq (.bool false),gEq (.slice (some ⟨b,d,none⟩) m c2),gEq (m:Int),gEq (.bool false),gEq (.bool false),gEq (.bool false),gEq (.agg #[aA,aB,.slice (some ⟨pb,po,none⟩) n c]),gEq (.slice (some ⟨b,d,none⟩) m c2),gEq (.pointer (some ⟨b,d,none⟩)),gEq (u:Int),gEq (.bool true),gEq (.bool false),gEq (.bool false),gEq (.bool false),gEq (.pointer (some ⟨w,2,none⟩)),gEq (.slice (some ⟨pb,po,none⟩) n c),gEq (.slice (some ⟨b,d,none⟩) m c2),gEq (.pointer (some ⟨b,d,none⟩)),gEq (u:Int),gEq (.pointer (some ⟨pb,po+u,none⟩)),gEq (I 0),gEq (.bool false),gEq (.bool false)]) 26 26 [(0,some 9),(1,some 10),(2,some 11),(3,some 12),(4,some 13),(5,some 14),(6,some 15),(7,some 16),(8,some 17),(9,some 18),(10,some 19),(11,some 20),(12,some 21),(13,some 22),(14,some 23),(15,some 24),(16,some 25),(17,some 26),(18,some 27),(19,some 28),(20,some 29),(21,some 30),(22,some 31),(23,some 32),(24,some 33),(25,some 34)] ?steps ?fin
 case steps=>
  refine sC [] rfl (fun wi hx=> ?_) ?_
  ·intro K hK;have hX:Ext (w.alloc (.cells #[aA,aB,.slice (some ⟨pb,po,none⟩) n c] TH3)) wi:=xE;obtain⟨f,bc,bd⟩:=((ME.bk 0).ext hX).tri;go_simp;exact hK _ _ ⟨.agg #[aA,aB,.slice (some ⟨pb,po,none⟩) n c],rfl,rfl,Ext.refl _⟩
  refine sC [(0,some 9)] rfl (fun wi hx=> ?_) ?_
  ·intro v0 h0 K hK;obtain rfl:=h0;have hX:Ext w wi:=xE;go_wp2_with fail;refine Z (HV _ hX) fun w5 ag=>?_
   go_simp;exact hK _ _ ⟨.bool true,rfl,rfl,ag⟩
  refine sS1 [(1,some 10)] (sS1 [(2,some 11)] (sS1 [(3,some 12)] (sS2 [(3,some 12),(4,some 13)] (sS2 [(3,some 12),(5,some 14)] (sS2 [(3,some 12),(6,some 15)] (sS1 [(7,some 16)] ?_))))));refine sC [(8,some 17)] rfl (fun wi hx=> ?_) ?_
  ·intro v8 h8 K hK;obtain rfl:=h8;have hX:Ext (w.alloc (.cells #[aA,aB,.slice (some ⟨pb,po,none⟩) n c] TH3)) wi:=xE;obtain⟨f,bc,bd⟩:=((ME.bk 0).ext hX).tri;go_simp;exact hK _ _ ⟨.agg #[aA,aB,.slice (some ⟨pb,po,none⟩) n c],rfl,rfl,Ext.refl _⟩
  refine sS1 [(8,some 17)] (sS2 [(8,some 17),(10,some 19)] ?_);refine sC [(8,some 17),(11,some 20)] rfl (fun wi hx=> ?_) ?_
  ·intro v8 h8 bu aa K hK;obtain rfl:=h8;obtain rfl:=aa;have hX:Ext (w.alloc (.cells #[aA,aB,.slice (some ⟨pb,po,none⟩) n c] TH3)) wi:=xE;have f:wi.cell? ⟨b,d,none⟩=some (I u):=(ME.ext.trans hX).cells.1 _ _ hb |>.trans be;go_simp;exact hK _ _ ⟨I u,rfl,rfl,Ext.refl _⟩
  refine sC [(8,some 17),(9,some 18),(12,some 21)] rfl (fun wi hx=> ?_) ?_
  ·intro v8 h8 v9 h9 cz ax K hK;subst h8 h9;obtain rfl:=ax;have hX:Ext w wi:=xE;go_wp2_with fail;refine Z (HH _) fun w5 ag=>?_
   go_simp;exact hK _ _ ⟨.bool true,rfl,rfl,ag⟩
  refine sS2 [(8,some 17),(13,some 22)] (sS2 [(8,some 17),(14,some 23)] (sS1 [(15,some 24)] (sS1 [(16,some 25)] ?_)));refine sC [(16,some 25),(17,some 26)] rfl (fun wi hx=> ?_) ?_
  ·intro a7 p c1 ay K hK;obtain rfl:=p;obtain rfl:=ay;have hX:Ext (w.alloc (.cells #[aA,aB,.slice (some ⟨pb,po,none⟩) n c] TH3)) wi:=xE;have f:=((ME.bk 0).ext hX).cl 2;go_simp;exact hK _ _ ⟨.slice (some ⟨pb,po,none⟩) n c,rfl,rfl,Ext.refl _⟩
  refine sS1 [(16,some 25)] (sS2 [(16,some 25),(19,some 28)] ?_);refine sC [(16,some 25),(20,some 29)] rfl (fun wi hx=> ?_) ?_
  ·intro a7 p c3 az K hK;obtain rfl:=p;obtain rfl:=az;have hX:Ext (w.alloc (.cells #[aA,aB,.slice (some ⟨pb,po,none⟩) n c] TH3)) wi:=xE;have f:wi.cell? ⟨b,d,none⟩=some (I u):=(ME.ext.trans hX).cells.1 _ _ hb |>.trans be;go_simp;exact hK _ _ ⟨I u,rfl,rfl,Ext.refl _⟩
  refine sS3 [(16,some 25),(18,some 27),(21,some 30)] ?_;refine sC [(16,some 25),(22,some 31)] rfl (fun wi hx=> ?_) ?_
  ·intro a7 p c4 a0 K hK;obtain rfl:=p;obtain rfl:=a0;have hX:Ext (w.alloc (.cells #[aA,aB,.slice (some ⟨pb,po,none⟩) n c] TH3)) wi:=xE;have f:wi.cell? ⟨pb,po+u,none⟩=some (I 0):=(ME.ext.trans hX).cells.1 _ _ co |>.trans b6;go_simp;exact hK _ _ ⟨I 0,rfl,rfl,Ext.refl _⟩
  exact sS2 [(16,some 25),(23,some 32)] (sS2 [(16,some 25),(24,some 33)] StepsL.nil)
 case fin=>
  intro wi hx v0 h0 v1 h1 v2 h2 v3 h3 v4 h4 v5 h5 v6 h6 v7 h7 v8 h8 v9 h9 cw aw bu aa cz ax dc b7 dd b8 de b9 a7 p c1 ay df cc dg cd c3 az dh ce c4 a0 di cf dj cg dk ch;subst h0 h1 h2 h3 h4 h5 h6 h7 h8 h9;obtain rfl:=aw;obtain rfl:=aa;obtain rfl:=ax;obtain rfl:=b7;obtain rfl:=b8;obtain rfl:=b9;obtain rfl:=p;obtain rfl:=ay;obtain rfl:=cc;obtain rfl:=cd;obtain rfl:=az;obtain rfl:=ce;obtain rfl:=a0;obtain rfl:=cf;obtain rfl:=cg;obtain rfl:=ch;have hX:Ext (w.alloc (.cells #[aA,aB,.slice (some ⟨pb,po,none⟩) n c] TH3)) wi:=hx.of_drew;have M1:=(ME.adv hX)
  clear ME hX hx;refine wpAny_done (by kernel_rfl) ?_ _;try go_frame
  go_wp2;go_loopw [5] (fun i wr=> ∃(k:Nat),1≤k∧k≤m∧i=I k∧Mem w wr [aI w w TH3 #[aA,aB,.slice (some ⟨pb,po,none⟩) n c]]) (fun i _=>m-(intOf i).toNat)
  case atStart=>exact⟨1,aK1 _,by omega,rfl,M1⟩
  case round=>
   clear M1;obtain⟨k,bj,hk,rfl,hM⟩:=hrel;have HM:=hM;clear hM;by_cases hlt:k<m
   ·obtain⟨x,hx⟩: ∃x,ws[k-1]? =some x:=⟨_,aK2 (by rw[aj.out];omega)⟩
    obtain⟨y,hy⟩: ∃y,ws[k]? =some y:=⟨_,aK2 (by rw[aj.out];omega)⟩
    have ca:wr.cell? ⟨b,d+(k-1),none⟩=some (I x):=(HM.ext.cells.1 _ _ hb).trans (HS (k-1) x hx);have cb:wr.cell? ⟨b,d+k,none⟩=some (I y):=(HM.ext.cells.1 _ _ hb).trans (HS k y hy);have ab:b<wr:=aK0 hb HM.ext.sz;have a8:=xQ (bw k x y bj hx hy);clear hx hy;have i1:(0:Int)≤(k:Int):=by omega
    have i2:(k:Int)<(m:Int):=by omega
    have i3:(k:Int)-1<(m:Int):=by omega
    have i4:((k:Int)-1).toNat=k-1:=by omega
    have i5:(1:Int)≤(k:Int):=by omega
    go_wp2;refine rL (gl [gEq (.agg #[aA,aB,.slice (some ⟨pb,po,none⟩) n c]),gEq (.slice (some ⟨b,d,none⟩) m c2),gEq (k:Int),gEq ((k:Int)-1:Int),gEq (.pointer (some ⟨b,d+(k-1),none⟩)),gEq (x:Int),gEq (.slice (some ⟨b,d,none⟩) m c2),gEq (k:Int),gEq (.pointer (some ⟨b,d+k,none⟩)),gEq (y:Int),gEq (I 1),gEq (.bool false)]) 12 12 [(0,some 41),(1,some 42),(2,some 43),(3,some 44),(4,some 45),(5,some 46),(6,some 47),(7,some 48),(8,some 49),(9,some 50),(10,some 51),(11,some 52)] ?steps ?fin
    case steps=>
     refine sC [] rfl (fun wi hx=> ?_) ?_
     ·intro K hK;have hX:Ext wr wi:=xE;obtain⟨f,bc,bd⟩:=((HM.bk 0).ext hX).tri;go_simp;exact hK _ _ ⟨.agg #[aA,aB,.slice (some ⟨pb,po,none⟩) n c],rfl,rfl,Ext.refl _⟩
     refine sS0 [] (sS0 [] ?_);refine sC [(2,some 43)] rfl (fun wi hx=> ?_) ?_
     ·intro v2 h2 K hK;obtain rfl:=h2;have da:IntKind.i64.wrap ((k:Int)-1)=(k:Int)-1:=aK3 _ (by omega);go_simp;exact hK _ _ ⟨I ((k:Int)-1),rfl,rfl,Ext.refl _⟩
     refine sS2 [(1,some 42),(3,some 44)] ?_;refine sC [(4,some 45)] rfl (fun wi hx=> ?_) ?_
     ·intro v4 h4 K hK;obtain rfl:=h4;have hX:Ext wr wi:=xE;have f:wi.cell? ⟨b,d+(k-1),none⟩=some (I x):=(hX.cells.1 _ _ ab).trans ca;go_simp;exact hK _ _ ⟨I x,rfl,rfl,Ext.refl _⟩
     refine sS0 [] (sS0 [] (sS2 [(6,some 47),(7,some 48)] ?_));refine sC [(8,some 49)] rfl (fun wi hx=> ?_) ?_
     ·intro v8 h8 K hK;obtain rfl:=h8;have hX:Ext wr wi:=xE;have f:wi.cell? ⟨b,d+k,none⟩=some (I y):=(hX.cells.1 _ _ ab).trans cb;go_simp;exact hK _ _ ⟨I y,rfl,rfl,Ext.refl _⟩
     refine sC [(0,some 41),(5,some 46),(9,some 50)] rfl (fun wi hx=> ?_) ?_
     ·intro v0 h0 v5 h5 v9 h9 K hK;subst h0 h5 h9;have hX:Ext wr wi:=xE;go_wp2_with fail;refine Z (a8 _ (HM.ext.trans hX)) fun w5 ag=>?_
      go_simp;exact hK _ _ ⟨I 1,rfl,rfl,ag⟩
     exact sS1 [(10,some 51)] StepsL.nil
    case fin=>
     intro wi hx v0 h0 v1 h1 v2 h2 v3 h3 v4 h4 v5 h5 v6 h6 v7 h7 v8 h8 v9 h9 cw aw bu aa;subst h0 h1 h2 h3 h4 h5 h6 h7 h8 h9;obtain rfl:=aw;obtain rfl:=aa;have hX:Ext wr wi:=hx.of_drew;have M2:=(HM.adv hX)
     clear HM hX hx ca cb a8;refine wpAny_done (by kernel_rfl) ?_ _;try go_frame
     go_wp2;go_roundw
     case rel=>exact⟨k+1,by omega,by omega,by go_num,M2⟩
     case measure=>simp[intOf];omega
   obtain rfl:m=k:=by omega
   have b0:=(HM.bk 0).tri;obtain⟨h0,h1,h2⟩:=b0;go_wp2_with fail;clear h0 h1 h2;refine(HK _ HM.ext).mono ?_;rintro e w2 ⟨q0,c0,rfl,o2,bq⟩;rw[an.out]at o2⊢;have M2:=(HM.call bq o2)
   clear o2 bq HM;obtain⟨g,rfl,ci,cj⟩:=M2.so 0;clear ci cj;have M3:=(M2.c0 TH3 #[aA,aB,.slice (some ⟨g,0,none⟩) n c0])
   have M4:=(show Mem w _ [aJ w TI 1 (some ⟨g,0,none⟩) (n) (c0) (ivs (xs)),aJ w TSL 2 (none) (0) (0) (([]).flatMap aK),aI w w2 TH3 #[aA,aB,.slice (some ⟨g,0,none⟩) n c0],aI w w TH3 #[aA,aB,.slice (some ⟨pb,po,none⟩) n c]]from(M3.ownNew (Ext.refl _) (aKi _ _ TSL 2) (aK1 _)).pick [2,0,1,3] (by decide) rfl)
   clear M2 M3;obtain⟨gV,a1⟩: ∃gV,gV=w2.heap.size:=⟨_,rfl⟩
   rw[←a1]at M4;go_wp2;rw[←a1];clear a1;go_loopw [6,8] (fun v i wr=> ∃(k x:Nat) (rest:List Nat) (ys:List Int) (q5:OA) (l lc:Nat) (sl:List Sl2),1≤k∧k≤m∧i=I k∧v= .slice q5 l lc∧l=sl.length∧l≤k∧ws.drop (k-1)=x::rest∧aN aA aB ys=true∧ys.length=n∧x<n∧ys.getD x 0=0∧lQ aA n x rest∧sl++(bW ys x rest).2=(bW xs u s).2∧Mem w wr [aJ w TI 1 (some ⟨g,0,none⟩) (n) (c0) (ivs (ys)),aJ w TSL 2 (q5) (l) (lc) (sl.flatMap aK),aI w (gV) TH3 #[aA,aB,.slice (some ⟨g,0,none⟩) n c0],aI w w TH3 #[aA,aB,.slice (some ⟨pb,po,none⟩) n c]]) (fun _ i _=>m-(intOf i).toNat)
   case atStart=>exact⟨1,u,s,xs,none,0,0,[],aK1 _,by omega,rfl,rfl,rfl,by omega,by rw[bx.out];rfl,cn.out,an.out,hu,cq.out,cp.out,rfl,M4⟩
   case round=>
    clear M4;obtain⟨k,x,rest,ys,q5,l,lc,sl,bj,hk,rfl,rfl,hl,c6,bh,ap,bm,br,bp,ar,aq,hM⟩:=hrel;have ah:=xQ bh;have al:=xQ ap;have o:=xQ bm;have ba:=xQ bp;have am:=xQ ar;have t:=xQ aq;have av:=xQ hl;have HM:=hM;clear bh ap bm bp ar aq hM hl;by_cases hlt:k<m
    ·obtain⟨y,rest',q⟩: ∃y rest',rest=y::rest':=by
      have h1:=congrArg List.length ah.out;rw[aL7,aj.out]at h1;cases rest with
      |nil=>simp at h1;omega
      |cons y r=>exact⟨y,r,rfl⟩
     subst q;have a4:ws[k-1]? =some x:=by have:=congrArg (fun z=>z[0]?) ah.out;simpa using this
     have ad:ws.drop k=y::rest':=by have:=congrArg List.tail ah.out;rw[List.tail_drop,show k-1+1=k by omega]at this;exact this
     have a5:ws[k]? =some y:=by have:=congrArg (fun z=>z[0]?) ad;simpa using this
     have a9:=xQ ad;have ai:y∈aR aA n x:=am.out.1;have a3:y<n:=(bM.1 ai).1;have bg:aU aA (x:Int) (y:Int)=1:=(bM.1 ai).2;have bs: ¬(x=y):=by
      intro e;subst e;have:aU aA (x:Int) (x:Int)=0:=by unfold aU oC;simp
      omega
     have bv:=xQ ai;have ca:wr.cell? ⟨b,d+(k-1),none⟩=some (I x):=(HM.ext.cells.1 _ _ hb).trans (HS (k-1) x a4);have cb:wr.cell? ⟨b,d+k,none⟩=some (I y):=(HM.ext.cells.1 _ _ hb).trans (HS k y a5);have ab:b<wr:=aK0 hb HM.ext.sz;have bz:=xQ a4;have b1:=xQ a5;clear ad ai a4 a5 bg;obtain⟨z,hz⟩: ∃z,z=ys.getD y 0:=⟨_,rfl⟩
     have HZ:=xQ hz;have cy:wr.cell? ⟨g,y,none⟩=some (I z):=by have h1:=(cQ (D:=ys) (v:=y) (by rw[o.out];exact a3)).1;rw[←hz]at h1;have:=(HM.ow 0).cellAt y (by omega);rw[this];simp only[ivs,aKl,h1,aKv]
     clear hz;have v2:=(HM.bk 2).cl 2;have i1:(0:Int)≤(k:Int):=by omega
     have i2:(k:Int)<(m:Int):=by omega
     have i3:(k:Int)-1<(m:Int):=by omega
     have i4:((k:Int)-1).toNat=k-1:=by omega
     have i5:(1:Int)≤(k:Int):=by omega
     have i6:(0:Int)≤(y:Int):=by omega
     have i7:(y:Int)<(n:Int):=by omega
     have i8:(0:Int)≤(x:Int):=by omega
     have i9:(x:Int)<(n:Int):=by omega
     have db:IntKind.i64.wrap ((k:Int)-1)=(k:Int)-1:=aK3 _ (by omega);go_upto_block 3 with fail;go_cut [6,8]from 61 to 105 (fun s6 s8 wx=> ∃(ys':List Int) (q':OA) (l' lc':Nat) (sl':List Sl2),s6= .slice q' l' lc'∧s8=I k∧l'=sl'.length∧l'≤k+1∧aN aA aB ys'=true∧ys'.length=n∧ys'.getD y 0=0∧sl'++(bW ys' y rest').2=(bW xs u s).2∧Mem w wx [aJ w TI 1 (some ⟨g,0,none⟩) (n) (c0) (ivs (ys')),aJ w TSL 2 (q') (l') (lc') (sl'.flatMap aK),aI w (gV) TH3 #[aA,aB,.slice (some ⟨g,0,none⟩) n c0],aI w w TH3 #[aA,aB,.slice (some ⟨pb,po,none⟩) n c]])
     case first=>
      go_wp2;go_quiet (fail);generalize ak:World.drewN _ _=wq;have MQ:=(show Mem w wq [aJ w TI 1 (some ⟨g,0,none⟩) (n) (c0) (ivs (ys)),aJ w TSL 2 (q5) (l) (lc) (sl.flatMap aK),aI w (gV) TH3 #[aA,aB,.slice (some ⟨g,0,none⟩) n c0],aI w w TH3 #[aA,aB,.slice (some ⟨pb,po,none⟩) n c]]from by rw[←ak];exact HM.adv xE)
      have b3:wq.cell? ⟨b,d+(k-1),none⟩=some (I x):=by rw[←ak];simpa using ca
      have b5:wq.cell? ⟨b,d+k,none⟩=some (I y):=by rw[←ak];simpa using cb
      clear ak HM ca cb cy v2 ab;by_cases hz0:z=0
      ·have t0:(z !=0)=false:=by simp[hz0]
       have bb:=xQ (show ys.getD y 0=0 by rw[←HZ.out];exact hz0);have hr:=xQ (oO (a:=x) (l:=rest') bb.out);clear hz0;go_wp2_with fail;go_meet
       case rel=>exact⟨ys,q5,l,lc,sl,rfl,rfl,av.out,by omega,al.out,o.out,bb.out,by rw[←t.out,hr.out],MQ⟩
      have t0:(z !=0)=true:=by simp[hz0]
      have a6: ¬ys.getD y 0=0:=by rw[←HZ.out];exact hz0
      obtain⟨n1,n2,n3⟩:=qN al (by rw[o.out];exact br) ba (by rw[o.out];exact bv.out) a6;have a2:=mX (a:=x) (l:=rest') a6;rw[←HZ.out]at n1 n2 n3 a2;have hr:=xQ a2;have N1:=xQ n1;have N2:=xQ n2;have N3:=xQ n3;clear n1 n2 n3 hz0 a6 a2;go_wp2_with fail
      go_region_held3 (fun w'=>w'.cell? ⟨b,d+k,none⟩=some (I y)∧w'.cell? ⟨b,d+(k-1),none⟩=some (I x)) (first|(refine⟨?_,?_⟩<;>assumption)|go_keep) (first
       |(refine fS nU (by rfl) _ _ (by rfl) (MQ.adv (by first|exact(Ext.refl _).alloc _|exact Ext.drew ((Ext.refl _).alloc _)|exact xE)) 1 (by rfl) (by rfl) (aK ((y:Int),(x:Int))) (by rfl) (by first|exact dO _ _ _ 1 2 _ (by simp) (by simp) (by simp[maxLen])|exact(dO wq #[y,x] TSL 1 2 _ (by simp) (by simp) (by simp[maxLen])).ext (Ext.drew (Ext.refl _))) (lS _ _) (by omega) ?_
         intro q7 c7 w6 M6;have M7:=(show Mem w w6 [aJ w TI 1 (some ⟨g,0,none⟩) (n) (c0) (ivs (ys)),aJ w TSL 2 (q7) (l+1) (c7) ((sl++ [((y:Int),(x:Int))]).flatMap aK),aI w (gV) TH3 #[aA,aB,.slice (some ⟨g,0,none⟩) n c0],aI w w TH3 #[aA,aB,.slice (some ⟨pb,po,none⟩) n c]]from by have h:=M6;simpa only[aKf,aKc,aL1,aL8,List.flatMap_nil,aKr]using h)
         clear M6;have b4:w6.cell? ⟨b,d+k,none⟩=some (I y):=(M7.ext.cells.1 _ _ hb).trans (HS k y b1.out)
         have b2:w6.cell? ⟨b,d+(k-1),none⟩=some (I x):=(M7.ext.cells.1 _ _ hb).trans (HS (k-1) x bz.out)))
      clear MQ b3 b5;have v2:=(M7.bk 2).cl 2;have cy:w6.cell? ⟨g,y,none⟩=some (I z):=by have h1:=(cQ (D:=ys) (v:=y) (by rw[o.out];exact a3)).1;rw[←HZ.out]at h1;have:=(M7.ow 0).cellAt y (by omega);rw[this];simp only[ivs,aKl,h1,aKv]
      have cx:w6.cell? ⟨g,x,none⟩=some (I 0):=by have h1:=(cQ (D:=ys) (v:=x) (by rw[o.out];exact br)).1;rw[ba.out]at h1;have:=(M7.ow 0).cellAt x (by omega);rw[this];simp only[ivs,aKl,h1,aKv]
      have fy:w6.frozen? ⟨g,y,none⟩=false:=(M7.ow 0).frozenAt y;have fx:w6.frozen? ⟨g,x,none⟩=false:=(M7.ow 0).frozenAt x;have bt: ¬(g=gV):=M7.ne (i:=0) (j:=2) (by omega) rfl rfl rfl rfl;have cr: ¬(gV=g):=fun e=>bt e.symm
      have ck:w.heap.size≤g:=(M7.lt (i:=0) rfl rfl).1;have cs: ¬(g=b):=by omega
      have ct: ¬(b=g):=by omega
      have cu: ¬(x=y):=bs;have cv: ¬(y=x):=fun e=>bs e.symm
      go_upto_region 15 with fail;go_region;clear v2 cy cx fy fx bt cr ck cs ct cu cv b2 b4;have MX:=(show Mem w ((w6.setCell ⟨g,x,none⟩ (I z)).setCell ⟨g,y,none⟩ (I 0)) [aJ w TI 1 (some ⟨g,0,none⟩) (n) (c0) (ivs ((ys.set x z).set y 0)),aJ w TSL 2 (q7) (l+1) (c7) ((sl++ [((y:Int),(x:Int))]).flatMap aK),aI w (gV) TH3 #[aA,aB,.slice (some ⟨g,0,none⟩) n c0],aI w w TH3 #[aA,aB,.slice (some ⟨pb,po,none⟩) n c]]from by rw[←dJ,←dJ];exact(M7.ostore (i:=0) rfl x (I z)).ostore (i:=0) rfl y (I 0))
      have MY:=(MX.adv (Ext.drew (Ext.refl _)))
      generalize bo:World.drew _=w8;rw[bo]at MY;clear bo MX M7;go_wp2_with fail;go_meet
      case rel=>exact⟨(ys.set x z).set y 0,q7,l+1,c7,sl++ [((y:Int),(x:Int))],rfl,rfl,by rw[aKa,←av.out];rfl,by omega,N1.out,by rw[N2.out,o.out],N3.out,by rw[←t.out,hr.out];simp,MY⟩
     case rest=>
      obtain⟨ys',q',l',lc',sl',rfl,rfl,bl,c5,ao,ae,au,af,bf⟩:=hcut;have h1:=xQ bl;have h2:=xQ ao;have h3:=xQ ae;have h4:=xQ au;have h5:=xQ af;have h6:=xQ bf;clear bl ao ae au af bf HM ca cb cy v2 ab;go_wp2;go_roundw
      case rel=>exact⟨k+1,y,rest',ys',q',l',lc',sl',by omega,by omega,by go_num,rfl,h1.out,by omega,by rw[aM0];exact a9.out,h2.out,h3.out,a3,h4.out,am.out.2,h5.out,h6.out⟩
      case measure=>simp[intOf];omega
    obtain rfl:m=k:=by omega
    have q:rest= []:=by
     have h1:=congrArg List.length ah.out;rw[aL7,aj.out]at h1;cases rest with
     |nil=>rfl
     |cons y r=>simp at h1;omega
    subst q;have bi:Hid (sl=(bW xs u s).2):=by show _=_;rw[←t.out];simp[bW]
    go_wp2;go_ret;have cm:=av.out;subst cm;rw[←bi.out];exact⟨q5,lc,rfl,HM.ow 1,HM.ext⟩
theorem aJd (aA aB:Int)(p:OA)(n a:Nat)(xs:List Int)(lq:OA)(m lc u:Nat)(w:World)(hS:Sl w p n a 1 (ivs xs))(f:aN aA aB xs=true)(hu:u<n)(g:xs.getD u 0=0)
  (hL:Sl w lq m lc 1 (ivs (bA (cM aA n 12 u)))):
  U 137 #[aH aA aB p n a,.slice lq m lc] w (eL (bW xs u (cM aA n 12 u).tail).2 w):=by
 have hl:=hS.ilen;subst hl;have hg:=iS f;obtain⟨g1,g2,g3,g4,g5,g6,g7⟩:=bZ (cC f);obtain⟨k1,k2,k3⟩:=iX hg hu;have hm:=hL.ilen;rw[aLh]at hm;obtain⟨pb,po,rfl,l,o⟩:=hS.rd (by omega);obtain⟨b,h,rfl,hb,hc⟩:=hL.rd (by omega);have c: ∀(k x:Nat),(cM aA xs.length 12 u)[k]? =some x→w.cell? ⟨b,h+k,none⟩=some (I x):=by intro k x hx;have hk:=(aK4.1 hx).1;rw[hc k (by omega)];simp[ivs,bA,hx]
 have d:=sG aA xs.length 12 u;have q:w.cell? ⟨b,h,none⟩=some (I u):=c 0 u (by rw[d];rfl);have i:w.cell? ⟨pb,po+u,none⟩=some (I 0):=by rw[o u (by omega)];rw[aK6,aK2 hu]at g;simp only[Option.getD_some]at g;simp[ivs,hu,g]
 have HV: ∀w',Ext w w'→U 41 #[aH aA aB (some ⟨pb,po,none⟩) xs.length a] w' (O (.bool true) w'):=fun w' hy=>by have:=eV aA aB _ xs.length a xs w' (hS.ext hy);rwa[f]at this
 have HH: ∀w',U 110 #[aH aA aB (some ⟨pb,po,none⟩) xs.length a,u] w' (O (.bool true) w'):=fun w'=>by have:=gY aA aB (u:Int) (some ⟨pb,po,none⟩) xs.length a w' (by omega);rwa[decide_eq_true (⟨by omega,by omega⟩:0≤(u:Int)∧(u:Int)<xs.length)]at this
 refine aGv aA aB pb po xs.length a xs b h m lc u (cM aA xs.length 12 u).tail (cM aA xs.length 12 u) w g5 g6 (by omega) (by omega) d hm hb l f rfl hu g (pW hg 12 u hu) c q i HV HH ?_
  (fun w' hy=>kC aA aB _ xs.length a xs w' (by omega) (hS.ext hy))
 intro k x y hk hx hy w' hw;obtain⟨k,rfl⟩: ∃j,k=j+1:=⟨k-1,by omega⟩
 rw[aM0]at hx;have h2:=qY hg 12 u k x y hu hx hy;have r:=aCh hg 12 u x hu (aK5 hx);have h3:=bM.1 h2.2;have:=aJi aA aB x y _ xs.length a xs w' (hS.ext hw) f r h3.1;rwa[h3.2]at this
def dS (aA aB:Int)(xs:List Int)(l:List Sl2):List Int:=l.foldl (fun ys s=>bD aA aB ys s.1 s.2) xs
theorem zW (aA aB:Int)(xs:List Int)(l:List Sl2)(s:Sl2):dS aA aB xs (l++ [s])=bD aA aB (dS aA aB xs l) s.1 s.2:=by simp[dS]
theorem vQ {aA aB:Int}: ∀(l:List Sl2) (xs:List Int),aN aA aB xs=true→aN aA aB (dS aA aB xs l)=true∧(dS aA aB xs l).length=xs.length:=by
 intro l;induction l with
 |nil=>intro xs h;exact⟨h,rfl⟩
 |cons s l ih=>intro xs h;have:=ih (bD aA aB xs s.1 s.2) (gK _ _ h);exact⟨this.1,by rw[show dS aA aB xs (s::l)=dS aA aB (bD aA aB xs s.1 s.2) l from rfl,this.2,cJ]⟩
theorem zJ (aA aB:Int)(p:OA)(n a:Nat)(xs:List Int)(lq:OA)(m lc:Nat)(l:List Sl2)(w:World)(ad:Hid (l.length=m))(h:Hid (xs.length=n))(x:Hid (aN aA aB xs=true))(o:Hid (Sl w lq m lc 2 (l.flatMap aK)))
  (HK:xC 52 #[aH aA aB p n a] w fun w' e w''=> ∃q c,e= .returned (aH aA aB q n c)∧w''.ownsRow w' TI 1 (.slice q n c) n (ivs xs)∧Ext w' w''):
  U 104 #[aH aA aB p n a,.slice lq m lc] w (cP aA aB (dS aA aB xs l) w):=by
 have am:=o.out.bd;go_enter func104,ntmps104;go_wp2_with fail;refine(HK _ (((Mem.start w).c0 TH3 #[aA,aB,.slice p n a]).c1 TH3 #[(),(),((),())]).ext).mono ?_;rintro e w1 ⟨q0,c0,rfl,s,y⟩;have M1:=((((Mem.start w).c0 TH3 #[aA,aB,.slice p n a]).c1 TH3 #[(),(),((),())]).call y s)
 clear y s;have M2:=(show Mem w _ [aJ w TI 1 (q0) (n) (c0) (ivs (xs)),aI w w1 TH3 #[aA,aB,.slice q0 n c0],aI w (w.heap.size+1) TH3 #[(),(),((),())],aI w w TH3 #[aA,aB,.slice p n a]]from(M1.c0 TH3 #[aA,aB,.slice q0 n c0]).pick [1,0,2,3] (by decide) rfl)
 clear M1;obtain⟨gV,j⟩: ∃gV,gV=w1.heap.size:=⟨_,rfl⟩
 rw[←j]at M2;go_wp2;rw[←j];clear j;go_loopw [12] (fun i wr=> ∃(k:Nat) (q:OA) (c:Nat),k≤m∧i=I k∧Mem w wr [aJ w TI 1 (q) (n) (c) (ivs (dS aA aB xs (l.take k))),aI w (gV) TH3 #[aA,aB,.slice q n c],aI w (w.heap.size+1) TH3 #[(),(),((),())],aI w w TH3 #[aA,aB,.slice p n a]]) (fun i _=>m-(intOf i).toNat)
 case atStart=>exact⟨0,q0,c0,aK8 _,rfl,M2⟩
 case round=>
  clear M2;obtain⟨k,q,c,hk,rfl,hM⟩:=hrel;have HM:=hM;clear hM;by_cases hlt:k<m
  ·obtain⟨b,an,f,t,ae,hx,hb,aa,ab⟩:=yK (o.out.ext HM.ext) hlt;subst ae;have i1:(0:Int)≤(k:Int):=by omega
   have i2:(k:Int)<(m:Int):=by omega
   have af:Hid (dS aA aB xs (l.take (k+1))=bD aA aB (dS aA aB xs (l.take k)) f t):=by show _=_;rw[bE hx,zW]
   clear hx;obtain⟨d1,d2⟩:=vQ (l.take k) xs x.out;have HD:xC 37 #[aH aA aB q n c,dH f t] wr fun w' e w''=> ∃q' c',e= .returned (.tuple #[aH aA aB q' n c',.bool (aX aA aB (dS aA aB xs (l.take k)) f t)])∧w''.ownsRow w' TI 1 (.slice q' n c') n (ivs (dS aA aB xs (l.take (k+1))))∧Ext w' w'':=fun w' hx=>by
    refine(vI aA aB f t q n c _ w' ((HM.sq 0).ext hx) d1).mono ?_;rintro e w'' ⟨q',c',h1,h2,h3⟩;have hl:(bD aA aB (dS aA aB xs (l.take k)) f t).length=n:=by rw[cJ,d2,h.out]
    rw[hl]at h1 h2;exact⟨q',c',h1,by rw[af.out];exact h2,h3⟩
   clear d1 d2;have g:gV<wr:=(HM.hi 1)
   obtain⟨v0,v1,v2⟩:=(HM.bk 1).tri;go_wp2_with fail;clear v0 v1 v2 aa ab;refine(HD _ ((Ext.refl _).alloc _)).mono ?_;rintro e w6 ⟨q6,c6,rfl,u,z⟩;have M6:=((HM.c0 TSL #[f,t]).call z u)
   clear HM g z u;obtain⟨v0,ag,v1,ah,v2,ai⟩:=(M6.bk 3).trif;go_wp2;have M7:=((M6.st 3 0 (I aA)).st 3 1 (I aB))
   have M8:=(M7.st 3 2 (.slice q6 n c6))
   have M9:=(show Mem w (((w6.setCell ⟨gV,0,none⟩ (I aA)).setCell ⟨gV,1,none⟩ (I aB)).setCell ⟨gV,2,none⟩ (.slice q6 n c6)) [aJ w TI 1 (q6) (n) (c6) (ivs (dS aA aB xs (l.take (k+1)))),aI w wr TSL #[f,t],aJ w TI 1 (q) (n) (c) (ivs (dS aA aB xs (l.take k))),aI w (gV) TH3 #[aA,aB,.slice q6 n c6],aI w (w.heap.size+1) TH3 #[(),(),((),())],aI w w TH3 #[aA,aB,.slice p n a]]from M8)
   generalize d:World.setCell _ _ _=wz;rw[d]at M9;clear d M6 M7 M8 v0 ag v1 ah v2 ai;go_roundw
   case rel=>exact⟨k+1,q6,c6,by omega,by go_num,(M9.pick [0,3,4,5] (by decide) rfl)⟩
   case measure=>simp[intOf];omega
  obtain rfl:m=k:=by omega
  have r:Hid (dS aA aB xs (l.take m)=dS aA aB xs l):=by show _=_;rw[←ad.out,aLp]
  rw[r.out]at HM;have g:gV<wr:=(HM.hi 1)
  obtain⟨v0,v1,v2⟩:=(HM.bk 1).tri;obtain⟨z0,aj,z1,ak,z2,al⟩:=(HM.bk 2).trif;go_wp2;have M6:=((HM.st 2 0 (I aA)).st 2 1 (I aB))
  have M7:=(M6.st 2 2 (.slice q n c))
  have M8:=(show Mem w (((wr.setCell ⟨w.heap.size+1,0,none⟩ (I aA)).setCell ⟨w.heap.size+1,1,none⟩ (I aB)).setCell ⟨w.heap.size+1,2,none⟩ (.slice q n c)) [aJ w TI 1 (q) (n) (c) (ivs (dS aA aB xs l)),aI w (gV) TH3 #[aA,aB,.slice q n c],aI w (w.heap.size+1) TH3 #[aA,aB,.slice q n c],aI w w TH3 #[aA,aB,.slice p n a]]from M7)
  generalize d:World.setCell _ _ _=wz;rw[d]at M8;clear d HM M6 M7 v0 v1 v2 z0 aj z1 ak z2 al;obtain⟨y0,y1,y2⟩:=(M8.bk 2).tri;exact bodyPost_ret (v:=aH aA aB q n c) (by simp[results,results104,go_sem, *]) rfl (oZ (by exact(vQ l xs x.out).2.trans h.out) (M8.ow 0) M8.ext)
theorem vK (aA aB:Int)(p:OA)(n a:Nat)(xs:List Int)(lq:OA)(m lc:Nat)(l:List Sl2)(w:World)(c:l.length=m)(hS:Sl w p n a 1 (ivs xs))(b:aN aA aB xs=true)(hL:Sl w lq m lc 2 (l.flatMap aK)):
  U 104 #[aH aA aB p n a,.slice lq m lc] w (cP aA aB (dS aA aB xs l) w):=by
 have hl:=hS.ilen;subst hl;obtain⟨g1,g2,g3,g4,g5,g6,g7,g8,g9⟩:=bL b;exact zJ aA aB p xs.length a xs lq m lc l w c rfl b hL (fun w' hx=>kC aA aB p xs.length a xs w' (by omega) (hS.ext hx))
theorem aGy (aA aB:Int)(p:OA)(n b F:Nat)(fr:List Nat)(xs:List Int)(w:World)(hg:Hid ((aA,n)∈gZ))(hF:Hid (fr.length=F))(ah:F≤12)(m:Hid (∀x∈fr,x<n))
  (HF:xC 135 #[aH aA aB p n b] w fun w' e w''=> ∃q c,e= .returned (.slice q F c)∧w''.ownsRow w' TI 1 (.slice q F c) F (ivs (bA fr))∧Ext w' w'')
  (o:Hid (∀(u:Nat),u<n→ ∀w',Ext w w'→U 136 #[aH aA aB p n b,u,(),(-1:Int)] w' (bI (bA (cM aA n 12 u)) w')))
  (ad:Hid (∀(u:Nat),cO aA fr=some u→ ∀w' q W c,Ext w w'→Sl w' q W c 1 (ivs (bA (cM aA n 12 u)))→U 137 #[aH aA aB p n b,.slice q W c] w' (eL (bW xs u (cM aA n 12 u).tail).2 w'))):
  U 102 #[aH aA aB p n b] w (nJ ((cO aA fr).map fun u=>bW xs u (cM aA n 12 u).tail) w):=by
 have ak: ∀(w:World) (a:OA) (n c n' c':Nat),(binOp .eql 23 (.slice a n c) (.slice none n' c')).run prog w= .ok (.bool a.isNone) w:=fun w a n c n' c'=>Lib.run_eql_slice_nil w _ _ a n c n' c' underlying23
 go_enter func102,ntmps102;go_wp2_with fail;refine(HF _ ((Mem.start w).c0 TH3 #[aA,aB,.slice p n b]).ext).mono ?_;rintro e w1 ⟨q1,c1,rfl,y,aa⟩;have M1:=(((Mem.start w).c0 TH3 #[aA,aB,.slice p n b]).call aa y)
 clear aa y;have M2:=(show Mem w w1 [aJ w TI 1 (none) (0) (0) (ivs (bA (jU aA n (cO aA (fr.take 0))))),aJ w TI 1 (q1) (F) (c1) (ivs (bA fr)),aI w w TH3 #[aA,aB,.slice p n b]]from(M1.ownNew (Ext.refl _) (aKi _ _ TI 1) (aK1 _)))
 clear M1;go_wp2;go_loopw [4,11] (fun v i wr=> ∃(k:Nat) (qb:OA) (l lb:Nat),k≤F∧i=I k∧v= .slice qb l lb∧l=(jU aA n (cO aA (fr.take k))).length∧qb.isNone=decide (l=0)∧Mem w wr [aJ w TI 1 (qb) (l) (lb) (ivs (bA (jU aA n (cO aA (fr.take k))))),aJ w TI 1 (q1) (F) (c1) (ivs (bA fr)),aI w w TH3 #[aA,aB,.slice p n b]]) (fun _ i _=>F-(intOf i).toNat)
 case atStart=>exact⟨0,none,0,0,aK8 _,rfl,rfl,rfl,rfl,M2⟩
 case round=>
  clear M2;obtain⟨k,qb,l,lb,hk,rfl,rfl,hl,z,hM⟩:=hrel;have HM:=hM;have d:=xQ hl;have HQ:=xQ z;clear hM hl z;by_cases hlt:k<F
  ·obtain⟨u,hu⟩: ∃u,fr[k]? =some u:=⟨_,aK2 (by rw[hF.out];exact hlt)⟩
   have f:u<n:=m.out u (aK5 hu);obtain⟨gf,rfl,ai,aj⟩:=HM.so 1;have cu:wr.cell? ⟨gf,k,none⟩=some (I u):=by have:=(HM.ow 1).cellAt k (by omega);rw[this];simp[ivs,bA,hu]
   obtain⟨g,h⟩:=vE hg.out (l:=fr.take k) (fun x hx=>m.out x (aLj hx)) f;rw[←bE hu,←d.out]at g h;obtain⟨k1,k2,k3⟩:=iX hg.out f;obtain⟨W,hW⟩: ∃W,W=(cM aA n 12 u).length:=⟨_,rfl⟩
   rw[←hW]at k1 k2 g h;have r:=xQ g;have ae:=xQ h;have j:=xQ hW;have HC:=xQ (fun w' (hx:Ext w w')=>o u f w' hx);clear hu g h hW k3;have i1:(0:Int)≤(k:Int):=by omega
   have i2:(k:Int)<(F:Int):=by omega
   obtain⟨b0,b1,b2⟩:=(HM.bk 2).tri;go_wp2_with fail;clear b0 b1 b2 cu;refine(HC _ HM.ext).mono ?_;rintro e w5 ⟨q7,c7,rfl,o7,ab⟩;have af:(bA (cM aA n 12 u)).length=W:=by rw[j.out];simp[bA]
   rw[af]at o7⊢;have M5:=(HM.call ab o7)
   clear o7 ab HM HC;obtain⟨g7,rfl,s,t⟩:=M5.some (i:=0) rfl k1;clear s t;by_cases h0:l=0
   ·have hn:=xQ (r (.inl h0));have hq:qb.isNone=true:=by rw[HQ.out,h0];rfl
    clear h0;go_wp2;go_roundw
    case rel=>exact⟨k+1,some ⟨g7,0,none⟩,W,c7,by omega,by go_num,rfl,by rw[hn.out];exact j.out,by simp;omega,by rw[hn.out];exact M5.pick [0,2,3] (by decide) rfl⟩
    case measure=>simp[intOf];omega
   have hq:qb.isNone=false:=by rw[HQ.out];simp[h0]
   by_cases h1:W<l
   ·have hn:=xQ (r (.inr h1));have t2:(W:Int)<(l:Int):=by omega
    clear h0;go_wp2;go_roundw
    case rel=>exact⟨k+1,some ⟨g7,0,none⟩,W,c7,by omega,by go_num,rfl,by rw[hn.out];exact j.out,by simp;omega,by rw[hn.out];exact M5.pick [0,2,3] (by decide) rfl⟩
    case measure=>simp[intOf];omega
   have hn:=xQ (ae (by omega));have t2: ¬((W:Int)<(l:Int)):=by omega
   clear h0;go_wp2;go_roundw
   case rel=>exact⟨k+1,qb,l,lb,by omega,by go_num,rfl,by rw[hn.out];exact d.out,HQ.out,by rw[hn.out];exact M5.pick [1,2,3] (by decide) rfl⟩
   case measure=>simp[intOf];omega
  obtain rfl:F=k:=by omega
  rw[show fr.take F=fr by rw[←hF.out];exact aLp]at HM d;obtain⟨b0,b1,b2⟩:=(HM.bk 2).tri;cases hne:cO aA fr with
  |none=>
   have hq:qb.isNone=true:=by rw[HQ.out,d.out,hne];rfl
   have hE:=xQ HM.ext;clear HM d;go_wp2;exact bodyPost_ret (v:= .tuple #[((),()),.bool false]) (by simp[results,results102,go_sem, *]) rfl (by rw[hne];exact⟨_,rfl,by have:=hE.out;exact xE⟩)
  |some u=>
   have f:u<n:=m.out u ((jC aA fr).2 u hne);obtain⟨k1,k2,k3⟩:=iX hg.out f;rw[hne]at HM d;have hq:qb.isNone=false:=by rw[HQ.out,d.out];exact decide_eq_false (by show¬(cM aA n 12 u).length=0;omega)
   have HH:=xQ (ad u hne);clear k1 k2 k3;go_wp2_with fail;clear b0 b1 b2;refine(HH _ qb l lb HM.ext (HM.sq 0)).mono ?_;rintro e w9 ⟨q9,c9,rfl,o9,ag⟩;have HX:=xQ HM.ext;clear HM;go_wp2;exact bodyPost_ret (v:= .tuple #[.slice q9 (bW xs u (cM aA n 12 u).tail).2.length c9,.bool true]) (by simp[results,results102,go_sem, *]) rfl (by rw[hne];exact⟨q9,c9,rfl,bF o9 HX.out.sz,HX.out.trans ag⟩)
theorem aJh (aA aB:Int)(p:OA)(n a:Nat)(xs:List Int)(w:World)(hS:Sl w p n a 1 (ivs xs))(b:aN aA aB xs=true):
  U 102 #[aH aA aB p n a] w (nJ (fY aA xs) w):=by
 have hl:=hS.ilen;subst hl;have hg:=iS b;obtain⟨g1,g2,g3,g4,g5,g6,g7,g8,g9⟩:=bL b;have f:(bG xs).length≤xs.length:=by unfold bG;exact aK9 (aL6 _ _) (by simp)
 refine aGy aA aB p xs.length a (bG xs).length (bG xs) xs w hg rfl (by omega) (fun x hx=>(iT hx).1) (fun w' hx=> ?_) (fun u hu w' hx=>aJ9 aA aB p xs.length a u xs w' (hS.ext hx) b hu) (fun u hne w' q W c hx hL=> ?_)
 ·have:=aJf aA aB p xs.length a xs w' (hS.ext hx);rw[if_pos b,tM]at this;refine this.mono fun e w'' h1=> ?_
  obtain⟨q,c,h2,h3,h4⟩:=h1;rw[aLh]at h2 h3;exact⟨q,c,h2,h3,h4⟩
 obtain⟨hu,d⟩:=iT ((jC aA _).2 u hne);exact aJd aA aB p xs.length a xs q W c u w' (hS.ext hx) b hu d hL
end Go.Proofs.YtbgkcehffiogcaaGreatDoor
