/-
  Texts of this proof, packed (@packed).
-/
import Derived.Test.YthfmmibomhhmpaaGreatDoorY31
namespace Go.Proofs.YthfmmibomhhmpaaGreatDoor
open Go.RowKit Go.Proofs.Tryz
set_option linter.unusedSimpArgs false
set_option linter.unusedVariables false
set_option maxHeartbeats 8000000
set_option maxRecDepth 100000
theorem aOx (aA aB:Int)(pb po:Nat)(n c:Nat)(xs:List Int)(b d m c2 u:Nat)(s ws:List Nat)(w:World)(c9:4≤n)(hn:n≤12)(c8:0<m)(hm:m≤12)(bx:Hid (ws=u::s))(aj:Hid (ws.length=m))(hb:b<w.heap.size)(co:pb<w.heap.size)
  (cn:Hid (aN aA aB xs=true))(an:Hid (xs.length=n))(hu:u<n)(cq:Hid (xs.getD u 0=0))(cp:Hid (oO aA n u s))
  (HS:Hid (∀(k x:Nat),ws[k]? =some x→w.cell? ⟨b,d+k,none⟩=some (I x))) (be:w.cell? ⟨b,d,none⟩=some (I u)) (b6:w.cell? ⟨pb,po+u,none⟩=some (I 0))
  (HV:xB 42 #[aH aA aB (some ⟨pb,po,none⟩) n c] w true)
  (HH:Hid (∀w',U 138 #[aH aA aB (some ⟨pb,po,none⟩) n c,u] w' (O (.bool true) w')))
  (bw:Hid (∀(k x y:Nat),1≤k→ws[k-1]? =some x→ws[k]? =some y→ ∀w',Ext w w'→U 198 #[aH aA aB (some ⟨pb,po,none⟩) n c,x,y] w' (O (I 1) w')))
  (HK:Hid (∀w',Ext w w'→U 46 #[aH aA aB (some ⟨pb,po,none⟩) n c] w' (dN aA aB xs w'))):
  U 170 #[aH aA aB (some ⟨pb,po,none⟩) n c,.slice (some ⟨b,d,none⟩) m c2] w (gH (cO xs u s).2 w):=by
 have j1:=aVt u;have j2:=aVu u n;have j4:((m:Int)==0)=false:=by first|(simp;done)|(simp;omega)
 go_enter func170,ntmps170;have ME:=((Mem.start w).c0 TH3 #[aA,aB,.slice (some ⟨pb,po,none⟩) n c])
 go_wp2;refine rL (gl [gEq (.agg #[aA,aB,.slice (some ⟨pb,po,none⟩) n c]),gEq (.bool true),gEq (.bool false),gEq (.bool false),gEq (.slice (some ⟨b,d,none⟩) m c2),gEq (m:Int),gEq (.bool false),gEq (.bool false),gEq (.bool false),gEq (.agg #[aA,aB,.slice (some ⟨pb,po,none⟩) n c]),gEq (.slice (some ⟨b,d,none⟩) m c2),gEq (.pointer (some ⟨b,d,none⟩)),gEq (u:Int),gEq (.bool true),gEq (.bool false),gEq (.bool false),gEq (.bool false),gEq (.pointer (some ⟨w,2,none⟩)),gEq (.slice (some ⟨pb,po,none⟩) n c),gEq (.slice (some ⟨b,d,none⟩) m c2),gEq (.pointer (some ⟨b,d,none⟩)),gEq (u:Int),gEq (.pointer (some ⟨pb,po+u,none⟩)),gEq (I 0),gEq (.bool false),gEq (.bool false)]) 26 26 [(0,some 9),(1,some 10),(2,some 11),(3,some 12),(4,some 13),(5,some 14),(6,some 15),(7,some 16),(8,some 17),(9,some 18),(10,some 19),(11,some 20),(12,some 21),(13,some 22),(14,some 23),(15,some 24),(16,some 25),(17,some 26),(18,some 27),(19,some 28),(20,some 29),(21,some 30),(22,some 31),(23,some 32),(24,some 33),(25,some 34)] ?steps ?fin
 case steps=>
  refine sC [] rfl (fun wi hx=> ?_) ?_
  ·intro K hK;have hX:Ext (w.alloc (.cells #[aA,aB,.slice (some ⟨pb,po,none⟩) n c] TH3)) wi:=xE;obtain⟨f,bc,bd⟩:=((ME.bk 0).ext hX).tri;go_simp;exact hK _ _ ⟨.agg #[aA,aB,.slice (some ⟨pb,po,none⟩) n c],rfl,rfl,Ext.refl _⟩
  refine sC [(0,some 9)] rfl (fun wi hx=> ?_) ?_
  ·intro v0 h0 K hK;obtain rfl:=h0;have hX:Ext w wi:=xE;go_wp2_with fail;refine Z (HV _ hX) fun w5 ag=>?_
   go_simp;exact hK _ _ ⟨.bool true,rfl,rfl,ag⟩
  refine sS1 [(1,some 10)] (sS1 [(2,some 11)] (sS1 [(3,some 12)] (sS2 [(3,some 12),(4,some 13)] (sS2 [(3,some 12),(5,some 14)] (sS2 [(3,some 12),(6,some 15)] (sS1 [(7,some 16)] ?_))))));refine sC [(8,some 17)] rfl (fun wi hx=> ?_) ?_
  ·intro v8 h8 K hK;obtain rfl:=h8;have hX:Ext (w.alloc (.cells #[aA,aB,.slice (some ⟨pb,po,none⟩) n c] TH3)) wi:=xE;obtain⟨f,bc,bd⟩:=((ME.bk 0).ext hX).tri;go_simp;exact hK _ _ ⟨.agg #[aA,aB,.slice (some ⟨pb,po,none⟩) n c],rfl,rfl,Ext.refl _⟩
  refine sS1 [(8,some 17)] (sS2 [(8,some 17),(10,some 19)] ?_);refine sC [(8,some 17),(11,some 20)] rfl (fun wi hx=> ?_) ?_
  ·intro v8 h8 bu aa K hK;obtain rfl:=h8;obtain rfl:=aa;have hX:Ext (w.alloc (.cells #[aA,aB,.slice (some ⟨pb,po,none⟩) n c] TH3)) wi:=xE;have f:wi.cell? ⟨b,d,none⟩=some (I u):=(ME.ext.trans hX).cells.1 _ _ hb |>.trans be;go_simp;exact hK _ _ ⟨I u,rfl,rfl,Ext.refl _⟩
  refine sC [(8,some 17),(9,some 18),(12,some 21)] rfl (fun wi hx=> ?_) ?_
  ·intro v8 h8 v9 h9 cz ax K hK;subst h8 h9;obtain rfl:=ax;have hX:Ext w wi:=xE;go_wp2_with fail;refine Z (HH _) fun w5 ag=>?_
   go_simp;exact hK _ _ ⟨.bool true,rfl,rfl,ag⟩
  refine sS2 [(8,some 17),(13,some 22)] (sS2 [(8,some 17),(14,some 23)] (sS1 [(15,some 24)] (sS1 [(16,some 25)] ?_)));refine sC [(16,some 25),(17,some 26)] rfl (fun wi hx=> ?_) ?_
  ·intro a7 p c1 ay K hK;obtain rfl:=p;obtain rfl:=ay;have hX:Ext (w.alloc (.cells #[aA,aB,.slice (some ⟨pb,po,none⟩) n c] TH3)) wi:=xE;have f:=((ME.bk 0).ext hX).cl 2;go_simp;exact hK _ _ ⟨.slice (some ⟨pb,po,none⟩) n c,rfl,rfl,Ext.refl _⟩
  refine sS1 [(16,some 25)] (sS2 [(16,some 25),(19,some 28)] ?_);refine sC [(16,some 25),(20,some 29)] rfl (fun wi hx=> ?_) ?_
  ·intro a7 p c3 az K hK;obtain rfl:=p;obtain rfl:=az;have hX:Ext (w.alloc (.cells #[aA,aB,.slice (some ⟨pb,po,none⟩) n c] TH3)) wi:=xE;have f:wi.cell? ⟨b,d,none⟩=some (I u):=(ME.ext.trans hX).cells.1 _ _ hb |>.trans be;go_simp;exact hK _ _ ⟨I u,rfl,rfl,Ext.refl _⟩
  refine sS3 [(16,some 25),(18,some 27),(21,some 30)] ?_;refine sC [(16,some 25),(22,some 31)] rfl (fun wi hx=> ?_) ?_
  ·intro a7 p c4 a0 K hK;obtain rfl:=p;obtain rfl:=a0;have hX:Ext (w.alloc (.cells #[aA,aB,.slice (some ⟨pb,po,none⟩) n c] TH3)) wi:=xE;have f:wi.cell? ⟨pb,po+u,none⟩=some (I 0):=(ME.ext.trans hX).cells.1 _ _ co |>.trans b6;go_simp;exact hK _ _ ⟨I 0,rfl,rfl,Ext.refl _⟩
  exact sS2 [(16,some 25),(23,some 32)] (sS2 [(16,some 25),(24,some 33)] StepsL.nil)
 case fin=>
  intro wi hx v0 h0 v1 h1 v2 h2 v3 h3 v4 h4 v5 h5 v6 h6 v7 h7 v8 h8 v9 h9 cw aw bu aa cz ax dc b7 dd b8 de b9 a7 p c1 ay df cc dg cd c3 az dh ce c4 a0 di cf dj cg dk ch;subst h0 h1 h2 h3 h4 h5 h6 h7 h8 h9;obtain rfl:=aw;obtain rfl:=aa;obtain rfl:=ax;obtain rfl:=b7;obtain rfl:=b8;obtain rfl:=b9;obtain rfl:=p;obtain rfl:=ay;obtain rfl:=cc;obtain rfl:=cd;obtain rfl:=az;obtain rfl:=ce;obtain rfl:=a0;obtain rfl:=cf;obtain rfl:=cg;obtain rfl:=ch;have hX:Ext (w.alloc (.cells #[aA,aB,.slice (some ⟨pb,po,none⟩) n c] TH3)) wi:=hx.of_drew;have M1:=(ME.adv hX)
  clear ME hX hx;refine wpAny_done (by kernel_rfl) ?_ _;try go_frame
  go_wp2;go_loopw [5] (fun i wr=> ∃(k:Nat),1≤k∧k≤m∧i=I k∧Mem w wr [aI w w TH3 #[aA,aB,.slice (some ⟨pb,po,none⟩) n c]]) (fun i _=>m-(intOf i).toNat)
  case atStart=>exact⟨1,aT5 _,by omega,rfl,M1⟩
  case round=>
   clear M1;obtain⟨k,bj,hk,rfl,hM⟩:=hrel;have HM:=hM;clear hM;by_cases hlt:k<m
   ·obtain⟨x,hx⟩: ∃x,ws[k-1]? =some x:=⟨_,aT6 (by rw[aj.out];omega)⟩
    obtain⟨y,hy⟩: ∃y,ws[k]? =some y:=⟨_,aT6 (by rw[aj.out];omega)⟩
    have ca:wr.cell? ⟨b,d+(k-1),none⟩=some (I x):=(HM.ext.cells.1 _ _ hb).trans (HS (k-1) x hx);have cb:wr.cell? ⟨b,d+k,none⟩=some (I y):=(HM.ext.cells.1 _ _ hb).trans (HS k y hy);have ab:b<wr:=aT4 hb HM.ext.sz;have a8:=xQ (bw k x y bj hx hy);clear hx hy;have i1:=aVt k;have i2:=aVu k m;have i3:(k:Int)-1<(m:Int):=by omega
    have i4:((k:Int)-1).toNat=k-1:=by omega
    have i5:(1:Int)≤(k:Int):=by omega
    go_wp2;refine rL (gl [gEq (.agg #[aA,aB,.slice (some ⟨pb,po,none⟩) n c]),gEq (.slice (some ⟨b,d,none⟩) m c2),gEq (k:Int),gEq ((k:Int)-1:Int),gEq (.pointer (some ⟨b,d+(k-1),none⟩)),gEq (x:Int),gEq (.slice (some ⟨b,d,none⟩) m c2),gEq (k:Int),gEq (.pointer (some ⟨b,d+k,none⟩)),gEq (y:Int),gEq (I 1),gEq (.bool false)]) 12 12 [(0,some 41),(1,some 42),(2,some 43),(3,some 44),(4,some 45),(5,some 46),(6,some 47),(7,some 48),(8,some 49),(9,some 50),(10,some 51),(11,some 52)] ?steps ?fin
    case steps=>
     refine sC [] rfl (fun wi hx=> ?_) ?_
     ·intro K hK;have hX:Ext wr wi:=xE;obtain⟨f,bc,bd⟩:=((HM.bk 0).ext hX).tri;go_simp;exact hK _ _ ⟨.agg #[aA,aB,.slice (some ⟨pb,po,none⟩) n c],rfl,rfl,Ext.refl _⟩
     refine sS0 [] (sS0 [] ?_);refine sC [(2,some 43)] rfl (fun wi hx=> ?_) ?_
     ·intro v2 h2 K hK;obtain rfl:=h2;have da:=aVw ((k:Int)-1);go_simp;exact hK _ _ ⟨I ((k:Int)-1),rfl,rfl,Ext.refl _⟩
     refine sS2 [(1,some 42),(3,some 44)] ?_;refine sC [(4,some 45)] rfl (fun wi hx=> ?_) ?_
     ·intro v4 h4 K hK;obtain rfl:=h4;have hX:Ext wr wi:=xE;have f:wi.cell? ⟨b,d+(k-1),none⟩=some (I x):=(hX.cells.1 _ _ ab).trans ca;go_simp;exact hK _ _ ⟨I x,rfl,rfl,Ext.refl _⟩
     refine sS0 [] (sS0 [] (sS2 [(6,some 47),(7,some 48)] ?_));refine sC [(8,some 49)] rfl (fun wi hx=> ?_) ?_
     ·intro v8 h8 K hK;obtain rfl:=h8;have hX:Ext wr wi:=xE;have f:wi.cell? ⟨b,d+k,none⟩=some (I y):=(hX.cells.1 _ _ ab).trans cb;go_simp;exact hK _ _ ⟨I y,rfl,rfl,Ext.refl _⟩
     refine sC [(0,some 41),(5,some 46),(9,some 50)] rfl (fun wi hx=> ?_) ?_
     ·intro v0 h0 v5 h5 v9 h9 K hK;subst h0 h5 h9;have hX:Ext wr wi:=xE;go_wp2_with fail;refine Z (a8 _ (HM.ext.trans hX)) fun w5 ag=>?_
      go_simp;exact hK _ _ ⟨I 1,rfl,rfl,ag⟩
     exact sS1 [(10,some 51)] StepsL.nil
    case fin=>
     intro wi hx v0 h0 v1 h1 v2 h2 v3 h3 v4 h4 v5 h5 v6 h6 v7 h7 v8 h8 v9 h9 cw aw bu aa;subst h0 h1 h2 h3 h4 h5 h6 h7 h8 h9;obtain rfl:=aw;obtain rfl:=aa;have hX:Ext wr wi:=hx.of_drew;have M2:=(HM.adv hX)
     clear HM hX hx ca cb a8;refine wpAny_done (by kernel_rfl) ?_ _;try go_frame
     go_wp2;go_roundw
     case rel=>exact⟨k+1,by omega,by omega,by go_num,M2⟩
     case measure=>simp[intOf];omega
   obtain rfl:m=k:=by omega
   have b0:=(HM.bk 0).tri;obtain⟨h0,h1,h2⟩:=b0;go_wp2_with fail;clear h0 h1 h2;refine(HK _ HM.ext).mono ?_;rintro e w2 ⟨q0,c0,rfl,o2,bq⟩;rw[an.out]at o2⊢;have M2:=(HM.call bq o2)
   clear o2 bq HM;obtain⟨g,rfl,ci,cj⟩:=M2.so 0;clear ci cj;have M3:=(M2.c0 TH3 #[aA,aB,.slice (some ⟨g,0,none⟩) n c0])
   have M4:=(show Mem w _ [aJ w TI 1 (some ⟨g,0,none⟩) (n) (c0) (ivs (xs)),aJ w TSL 2 (none) (0) (0) (([]).flatMap aM),aI w w2 TH3 #[aA,aB,.slice (some ⟨g,0,none⟩) n c0],aI w w TH3 #[aA,aB,.slice (some ⟨pb,po,none⟩) n c]]from(M3.ownNew (Ext.refl _) (aTe _ _ TSL 2) (aT5 _)).pick [2,0,1,3] (by decide) rfl)
   clear M2 M3;obtain⟨gV,a1⟩: ∃gV,gV=w2.heap.size:=⟨_,rfl⟩
   rw[←a1]at M4;go_wp2;rw[←a1];clear a1;go_loopw [6,8] (fun v i wr=> ∃(k x:Nat) (rest:List Nat) (ys:List Int) (q5:OA) (l lc:Nat) (sl:List Sl2),1≤k∧k≤m∧i=I k∧v= .slice q5 l lc∧l=sl.length∧l≤k∧ws.drop (k-1)=x::rest∧aN aA aB ys=true∧ys.length=n∧x<n∧ys.getD x 0=0∧oO aA n x rest∧sl++(cO ys x rest).2=(cO xs u s).2∧Mem w wr [aJ w TI 1 (some ⟨g,0,none⟩) (n) (c0) (ivs (ys)),aJ w TSL 2 (q5) (l) (lc) (sl.flatMap aM),aI w (gV) TH3 #[aA,aB,.slice (some ⟨g,0,none⟩) n c0],aI w w TH3 #[aA,aB,.slice (some ⟨pb,po,none⟩) n c]]) (fun _ i _=>m-(intOf i).toNat)
   case atStart=>exact⟨1,u,s,xs,none,0,0,[],aT5 _,by omega,rfl,rfl,rfl,by omega,by rw[bx.out];rfl,cn.out,an.out,hu,cq.out,cp.out,rfl,M4⟩
   case round=>
    clear M4;obtain⟨k,x,rest,ys,q5,l,lc,sl,bj,hk,rfl,rfl,hl,c6,bh,ap,bm,br,bp,ar,aq,hM⟩:=hrel;have ah:=xQ bh;have al:=xQ ap;have o:=xQ bm;have ba:=xQ bp;have am:=xQ ar;have t:=xQ aq;have av:=xQ hl;have HM:=hM;clear bh ap bm bp ar aq hM hl;by_cases hlt:k<m
    ·obtain⟨y,rest',q⟩: ∃y rest',rest=y::rest':=by
      have h1:=congrArg List.length ah.out;rw[aUm,aj.out]at h1;cases rest with
      |nil=>simp at h1;omega
      |cons y r=>exact⟨y,r,rfl⟩
     subst q;have a4:ws[k-1]? =some x:=by have:=congrArg (fun z=>z[0]?) ah.out;simpa using this
     have ad:ws.drop k=y::rest':=by have:=congrArg List.tail ah.out;rw[List.tail_drop,show k-1+1=k by omega]at this;exact this
     have a5:ws[k]? =some y:=by have:=congrArg (fun z=>z[0]?) ad;simpa using this
     have a9:=xQ ad;have ai:y∈aU aA n x:=am.out.1;have a3:y<n:=(bZ.1 ai).1;have bg:aZ aA (x:Int) (y:Int)=1:=(bZ.1 ai).2;have bs: ¬(x=y):=by
      intro e;subst e;have:aZ aA (x:Int) (x:Int)=0:=by unfold aZ rZ;simp
      omega
     have bv:=xQ ai;have ca:wr.cell? ⟨b,d+(k-1),none⟩=some (I x):=(HM.ext.cells.1 _ _ hb).trans (HS (k-1) x a4);have cb:wr.cell? ⟨b,d+k,none⟩=some (I y):=(HM.ext.cells.1 _ _ hb).trans (HS k y a5);have ab:b<wr:=aT4 hb HM.ext.sz;have bz:=xQ a4;have b1:=xQ a5;clear ad ai a4 a5 bg;obtain⟨z,hz⟩: ∃z,z=ys.getD y 0:=⟨_,rfl⟩
     have HZ:=xQ hz;have cy:wr.cell? ⟨g,y,none⟩=some (I z):=by have h1:=(dR (D:=ys) (v:=y) (by rw[o.out];exact a3)).1;rw[←hz]at h1;have:=(HM.ow 0).cellAt y (by omega);rw[this];simp only[ivs,aTo,h1,aU4]
     clear hz;have v2:=(HM.bk 2).cl 2;have i1:=aVt k;have i2:=aVu k m;have i3:(k:Int)-1<(m:Int):=by omega
     have i4:((k:Int)-1).toNat=k-1:=by omega
     have i5:(1:Int)≤(k:Int):=by omega
     have i6:=aVt y;have i7:=aVu y n;have i8:=aVt x;have i9:=aVu x n;have db:=aVw ((k:Int)-1);go_upto_block 3 with fail;go_cut [6,8]from 61 to 105 (fun s6 s8 wx=> ∃(ys':List Int) (q':OA) (l' lc':Nat) (sl':List Sl2),s6= .slice q' l' lc'∧s8=I k∧l'=sl'.length∧l'≤k+1∧aN aA aB ys'=true∧ys'.length=n∧ys'.getD y 0=0∧sl'++(cO ys' y rest').2=(cO xs u s).2∧Mem w wx [aJ w TI 1 (some ⟨g,0,none⟩) (n) (c0) (ivs (ys')),aJ w TSL 2 (q') (l') (lc') (sl'.flatMap aM),aI w (gV) TH3 #[aA,aB,.slice (some ⟨g,0,none⟩) n c0],aI w w TH3 #[aA,aB,.slice (some ⟨pb,po,none⟩) n c]])
     case first=>
      go_wp2;go_quiet (fail);generalize ak:World.drewN _ _=wq;have MQ:=(show Mem w wq [aJ w TI 1 (some ⟨g,0,none⟩) (n) (c0) (ivs (ys)),aJ w TSL 2 (q5) (l) (lc) (sl.flatMap aM),aI w (gV) TH3 #[aA,aB,.slice (some ⟨g,0,none⟩) n c0],aI w w TH3 #[aA,aB,.slice (some ⟨pb,po,none⟩) n c]]from by rw[←ak];exact HM.adv xE)
      have b3:wq.cell? ⟨b,d+(k-1),none⟩=some (I x):=by rw[←ak];simpa using ca
      have b5:wq.cell? ⟨b,d+k,none⟩=some (I y):=by rw[←ak];simpa using cb
      clear ak HM ca cb cy v2 ab;by_cases hz0:z=0
      ·have t0:(z !=0)=false:=by simp[hz0]
       have bb:=xQ (show ys.getD y 0=0 by rw[←HZ.out];exact hz0);have hr:=xQ (sS (a:=x) (l:=rest') bb.out);clear hz0;go_wp2_with fail;go_meet
       case rel=>exact⟨ys,q5,l,lc,sl,rfl,rfl,av.out,by omega,al.out,o.out,bb.out,by rw[←t.out,hr.out],MQ⟩
      have t0:(z !=0)=true:=by simp[hz0]
      have a6: ¬ys.getD y 0=0:=by rw[←HZ.out];exact hz0
      obtain⟨n1,n2,n3⟩:=vO al (by rw[o.out];exact br) ba (by rw[o.out];exact bv.out) a6;have a2:=qO (a:=x) (l:=rest') a6;rw[←HZ.out]at n1 n2 n3 a2;have hr:=xQ a2;have N1:=xQ n1;have N2:=xQ n2;have N3:=xQ n3;clear n1 n2 n3 hz0 a6 a2;go_wp2_with fail
      go_region_held3 (fun w'=>w'.cell? ⟨b,d+k,none⟩=some (I y)∧w'.cell? ⟨b,d+(k-1),none⟩=some (I x)) (first|(refine⟨?_,?_⟩<;>assumption)|go_keep) (first
       |(refine hU rS (by rfl) _ _ (by rfl) (MQ.adv (by first|exact(Ext.refl _).alloc _|exact Ext.drew ((Ext.refl _).alloc _)|exact xE)) 1 (by rfl) (by rfl) (aM ((y:Int),(x:Int))) (by rfl) (by first|exact eD _ _ _ 1 2 _ (by simp) (by simp) (by simp[maxLen])|exact(eD wq #[y,x] TSL 1 2 _ (by simp) (by simp) (by simp[maxLen])).ext (Ext.drew (Ext.refl _))) (oS _ _) (by omega) ?_
         intro q7 c7 w6 M6;have M7:=(show Mem w w6 [aJ w TI 1 (some ⟨g,0,none⟩) (n) (c0) (ivs (ys)),aJ w TSL 2 (q7) (l+1) (c7) ((sl++ [((y:Int),(x:Int))]).flatMap aM),aI w (gV) TH3 #[aA,aB,.slice (some ⟨g,0,none⟩) n c0],aI w w TH3 #[aA,aB,.slice (some ⟨pb,po,none⟩) n c]]from by have h:=M6;simpa only[aTk,aTj,aTz,aUc,List.flatMap_nil,aTv]using h)
         clear M6;have b4:w6.cell? ⟨b,d+k,none⟩=some (I y):=(M7.ext.cells.1 _ _ hb).trans (HS k y b1.out)
         have b2:w6.cell? ⟨b,d+(k-1),none⟩=some (I x):=(M7.ext.cells.1 _ _ hb).trans (HS (k-1) x bz.out)))
      clear MQ b3 b5;have v2:=(M7.bk 2).cl 2;have cy:w6.cell? ⟨g,y,none⟩=some (I z):=by have h1:=(dR (D:=ys) (v:=y) (by rw[o.out];exact a3)).1;rw[←HZ.out]at h1;have:=(M7.ow 0).cellAt y (by omega);rw[this];simp only[ivs,aTo,h1,aU4]
      have cx:w6.cell? ⟨g,x,none⟩=some (I 0):=by have h1:=(dR (D:=ys) (v:=x) (by rw[o.out];exact br)).1;rw[ba.out]at h1;have:=(M7.ow 0).cellAt x (by omega);rw[this];simp only[ivs,aTo,h1,aU4]
      have fy:w6.frozen? ⟨g,y,none⟩=false:=(M7.ow 0).frozenAt y;have fx:w6.frozen? ⟨g,x,none⟩=false:=(M7.ow 0).frozenAt x;have bt: ¬(g=gV):=M7.ne (i:=0) (j:=2) (by omega) rfl rfl rfl rfl;have cr: ¬(gV=g):=fun e=>bt e.symm
      have ck:w.heap.size≤g:=(M7.lt (i:=0) rfl rfl).1;have cs: ¬(g=b):=by omega
      have ct: ¬(b=g):=by omega
      have cu: ¬(x=y):=bs;have cv: ¬(y=x):=fun e=>bs e.symm
      go_upto_region 15 with fail;go_region;clear v2 cy cx fy fx bt cr ck cs ct cu cv b2 b4;have MX:=(show Mem w ((w6.setCell ⟨g,x,none⟩ (I z)).setCell ⟨g,y,none⟩ (I 0)) [aJ w TI 1 (some ⟨g,0,none⟩) (n) (c0) (ivs ((ys.set x z).set y 0)),aJ w TSL 2 (q7) (l+1) (c7) ((sl++ [((y:Int),(x:Int))]).flatMap aM),aI w (gV) TH3 #[aA,aB,.slice (some ⟨g,0,none⟩) n c0],aI w w TH3 #[aA,aB,.slice (some ⟨pb,po,none⟩) n c]]from by rw[←eL,←eL];exact(M7.ostore (i:=0) rfl x (I z)).ostore (i:=0) rfl y (I 0))
      have MY:=(MX.adv (Ext.drew (Ext.refl _)))
      generalize bo:World.drew _=w8;rw[bo]at MY;clear bo MX M7;go_wp2_with fail;go_meet
      case rel=>exact⟨(ys.set x z).set y 0,q7,l+1,c7,sl++ [((y:Int),(x:Int))],rfl,rfl,by rw[aTc,←av.out];rfl,by omega,N1.out,by rw[N2.out,o.out],N3.out,by rw[←t.out,hr.out];simp,MY⟩
     case rest=>
      obtain⟨ys',q',l',lc',sl',rfl,rfl,bl,c5,ao,ae,au,af,bf⟩:=hcut;have h1:=xQ bl;have h2:=xQ ao;have h3:=xQ ae;have h4:=xQ au;have h5:=xQ af;have h6:=xQ bf;clear bl ao ae au af bf HM ca cb cy v2 ab;go_wp2;go_roundw
      case rel=>exact⟨k+1,y,rest',ys',q',l',lc',sl',by omega,by omega,by go_num,rfl,h1.out,by omega,by rw[aVd];exact a9.out,h2.out,h3.out,a3,h4.out,am.out.2,h5.out,h6.out⟩
      case measure=>simp[intOf];omega
    obtain rfl:m=k:=by omega
    have q:rest= []:=by
     have h1:=congrArg List.length ah.out;rw[aUm,aj.out]at h1;cases rest with
     |nil=>rfl
     |cons y r=>simp at h1;omega
    subst q;have bi:Hid (sl=(cO xs u s).2):=by show _=_;rw[←t.out];simp[cO]
    go_wp2;go_ret;have cm:=av.out;subst cm;rw[←bi.out];exact⟨q5,lc,rfl,HM.ow 1,HM.ext⟩
theorem aS8 (aA aB:Int)(p:OA)(n a:Nat)(xs:List Int)(lq:OA)(m lc u:Nat)(w:World)(hS:Sl w p n a 1 (ivs xs))(f:aN aA aB xs=true)(hu:u<n)(g:xs.getD u 0=0)
  (hL:Sl w lq m lc 1 (ivs (bK (dK aA n 12 u)))):
  U 170 #[aH aA aB p n a,.slice lq m lc] w (gH (cO xs u (dK aA n 12 u).tail).2 w):=by
 have hl:=hS.ilen;subst hl;have hg:=lA f;obtain⟨g1,g2,g3,g4,g5,g6,g7⟩:=cG (cY f);obtain⟨k1,k2,k3⟩:=lI hg hu;have hm:=hL.ilen;rw[aU1]at hm;obtain⟨pb,po,rfl,l,o⟩:=hS.rd (by omega);obtain⟨b,h,rfl,hb,hc⟩:=hL.rd (by omega);have c: ∀(k x:Nat),(dK aA xs.length 12 u)[k]? =some x→w.cell? ⟨b,h+k,none⟩=some (I x):=by intro k x hx;have hk:=(aT9.1 hx).1;rw[hc k (by omega)];simp[ivs,bK,hx]
 have d:=xX aA xs.length 12 u;have q:w.cell? ⟨b,h,none⟩=some (I u):=c 0 u (by rw[d];rfl);have i:w.cell? ⟨pb,po+u,none⟩=some (I 0):=by rw[o u (by omega)];rw[aTb,aT6 hu]at g;simp only[Option.getD_some]at g;simp[ivs,hu,g]
 have HV: ∀w',Ext w w'→U 42 #[aH aA aB (some ⟨pb,po,none⟩) xs.length a] w' (O (.bool true) w'):=fun w' hy=>by have:=gU aA aB _ xs.length a xs w' (hS.ext hy);rwa[f]at this
 have HH: ∀w',U 138 #[aH aA aB (some ⟨pb,po,none⟩) xs.length a,u] w' (O (.bool true) w'):=fun w'=>by have:=jV aA aB (u:Int) (some ⟨pb,po,none⟩) xs.length a w' (by omega);rwa[decide_eq_true (⟨by omega,by omega⟩:0≤(u:Int)∧(u:Int)<xs.length)]at this
 refine aOx aA aB pb po xs.length a xs b h m lc u (dK aA xs.length 12 u).tail (dK aA xs.length 12 u) w g5 g6 (by omega) (by omega) d hm hb l f rfl hu g (uQ hg 12 u hu) c q i HV HH ?_
  (fun w' hy=>mT aA aB _ xs.length a xs w' (by omega) (hS.ext hy))
 intro k x y hk hx hy w' hw;obtain⟨k,rfl⟩: ∃j,k=j+1:=⟨k-1,by omega⟩
 rw[aVd]at hx;have h2:=wD hg 12 u k x y hu hx hy;have r:=aJf hg 12 u x hu (aT7 hx);have h3:=bZ.1 h2.2;have:=aSd aA aB x y _ xs.length a xs w' (hS.ext hw) f r h3.1;rwa[h3.2]at this
def eX (aA aB:Int)(xs:List Int)(l:List Sl2):List Int:=l.foldl (fun ys s=>bL aA aB ys s.1 s.2) xs
theorem aGg (aA aB:Int)(xs:List Int)(l:List Sl2)(s:Sl2):eX aA aB xs (l++ [s])=bL aA aB (eX aA aB xs l) s.1 s.2:=by simp[eX]
theorem aBx {aA aB:Int}: ∀(l:List Sl2) (xs:List Int),aN aA aB xs=true→aN aA aB (eX aA aB xs l)=true∧(eX aA aB xs l).length=xs.length:=by
 intro l;induction l with
 |nil=>intro xs h;exact⟨h,rfl⟩
 |cons s l ih=>intro xs h;have:=ih (bL aA aB xs s.1 s.2) (jK _ _ h);exact⟨this.1,by rw[show eX aA aB xs (s::l)=eX aA aB (bL aA aB xs s.1 s.2) l from rfl,this.2,dG]⟩
theorem aFy (aA aB:Int)(p:OA)(n a:Nat)(xs:List Int)(lq:OA)(m lc:Nat)(l:List Sl2)(w:World)(ad:Hid (l.length=m))(h:Hid (xs.length=n))(x:Hid (aN aA aB xs=true))(o:Hid (Sl w lq m lc 2 (l.flatMap aM)))
  (HK:xC 46 #[aH aA aB p n a] w fun w' e w''=> ∃q c,e= .returned (aH aA aB q n c)∧w''.ownsRow w' TI 1 (.slice q n c) n (ivs xs)∧Ext w' w''):
  U 132 #[aH aA aB p n a,.slice lq m lc] w (dN aA aB (eX aA aB xs l) w):=by
 have aj:=o.out.bd;go_enter func132,ntmps132;go_wp2_with fail;refine(HK _ (((Mem.start w).c0 TH3 #[aA,aB,.slice p n a]).c1 TH3 #[(),(),((),())]).ext).mono ?_;rintro e w1 ⟨q0,c0,rfl,s,y⟩;have M1:=((((Mem.start w).c0 TH3 #[aA,aB,.slice p n a]).c1 TH3 #[(),(),((),())]).call y s)
 clear y s;have M2:=(show Mem w _ [aJ w TI 1 (q0) (n) (c0) (ivs (xs)),aI w w1 TH3 #[aA,aB,.slice q0 n c0],aI w (w.heap.size+1) TH3 #[(),(),((),())],aI w w TH3 #[aA,aB,.slice p n a]]from(M1.c0 TH3 #[aA,aB,.slice q0 n c0]).pick [1,0,2,3] (by decide) rfl)
 clear M1;obtain⟨gV,j⟩: ∃gV,gV=w1.heap.size:=⟨_,rfl⟩
 rw[←j]at M2;go_wp2;rw[←j];clear j;go_loopw [12] (fun i wr=> ∃(k:Nat) (q:OA) (c:Nat),k≤m∧i=I k∧Mem w wr [aJ w TI 1 (q) (n) (c) (ivs (eX aA aB xs (l.take k))),aI w (gV) TH3 #[aA,aB,.slice q n c],aI w (w.heap.size+1) TH3 #[(),(),((),())],aI w w TH3 #[aA,aB,.slice p n a]]) (fun i _=>m-(intOf i).toNat)
 case atStart=>exact⟨0,q0,c0,aTd _,rfl,M2⟩
 case round=>
  clear M2;obtain⟨k,q,c,hk,rfl,hM⟩:=hrel;have HM:=hM;clear hM;by_cases hlt:k<m
  ·obtain⟨b,ak,f,t,ae,hx,hb,aa,ab⟩:=aEr (o.out.ext HM.ext) hlt;subst ae;have i1:=aVt k;have i2:=aVu k m;have af:Hid (eX aA aB xs (l.take (k+1))=bL aA aB (eX aA aB xs (l.take k)) f t):=by show _=_;rw[bA hx,aGg]
   clear hx;obtain⟨d1,d2⟩:=aBx (l.take k) xs x.out;have HD:xC 64 #[aH aA aB q n c,eK f t] wr fun w' e w''=> ∃q' c',e= .returned (.tuple #[aH aA aB q' n c',.bool (bH aA aB (eX aA aB xs (l.take k)) f t)])∧w''.ownsRow w' TI 1 (.slice q' n c') n (ivs (eX aA aB xs (l.take (k+1))))∧Ext w' w'':=fun w' hx=>by
    refine(aBm aA aB f t q n c _ w' ((HM.sq 0).ext hx) d1).mono ?_;rintro e w'' ⟨q',c',h1,h2,h3⟩;have hl:(bL aA aB (eX aA aB xs (l.take k)) f t).length=n:=by rw[dG,d2,h.out]
    rw[hl]at h1 h2;exact⟨q',c',h1,by rw[af.out];exact h2,h3⟩
   clear d1 d2;have g:gV<wr:=(HM.hi 1)
   obtain⟨v0,v1,v2⟩:=(HM.bk 1).tri;go_wp2_with fail;clear v0 v1 v2 aa ab;refine(HD _ ((Ext.refl _).alloc _)).mono ?_;rintro e w6 ⟨q6,c6,rfl,u,z⟩;have M6:=((HM.c0 TSL #[f,t]).call z u)
   clear HM g z u;obtain⟨v0,ag,v1,ah,v2,ai⟩:=(M6.bk 3).trif;go_wp2;have M7:=((M6.st 3 0 (I aA)).st 3 1 (I aB))
   have M8:=(M7.st 3 2 (.slice q6 n c6))
   have M9:=(show Mem w (((w6.setCell ⟨gV,0,none⟩ (I aA)).setCell ⟨gV,1,none⟩ (I aB)).setCell ⟨gV,2,none⟩ (.slice q6 n c6)) [aJ w TI 1 (q6) (n) (c6) (ivs (eX aA aB xs (l.take (k+1)))),aI w wr TSL #[f,t],aJ w TI 1 (q) (n) (c) (ivs (eX aA aB xs (l.take k))),aI w (gV) TH3 #[aA,aB,.slice q6 n c6],aI w (w.heap.size+1) TH3 #[(),(),((),())],aI w w TH3 #[aA,aB,.slice p n a]]from M8)
   generalize d:World.setCell _ _ _=wz;rw[d]at M9;clear d M6 M7 M8 v0 ag v1 ah v2 ai;go_roundw
   case rel=>exact⟨k+1,q6,c6,by omega,by go_num,(M9.pick [0,3,4,5] (by decide) rfl)⟩
   case measure=>simp[intOf];omega
  obtain rfl:m=k:=by omega
  have r:Hid (eX aA aB xs (l.take m)=eX aA aB xs l):=by show _=_;rw[←ad.out,aUv]
  rw[r.out]at HM;have g:gV<wr:=(HM.hi 1)
  obtain⟨v0,v1,v2⟩:=(HM.bk 1).tri;have z_:=(HM.bk 2).trif;go_wp2;have M6:=((HM.st 2 0 (I aA)).st 2 1 (I aB))
  have M7:=(M6.st 2 2 (.slice q n c))
  have M8:=(show Mem w (((wr.setCell ⟨w.heap.size+1,0,none⟩ (I aA)).setCell ⟨w.heap.size+1,1,none⟩ (I aB)).setCell ⟨w.heap.size+1,2,none⟩ (.slice q n c)) [aJ w TI 1 (q) (n) (c) (ivs (eX aA aB xs l)),aI w (gV) TH3 #[aA,aB,.slice q n c],aI w (w.heap.size+1) TH3 #[aA,aB,.slice q n c],aI w w TH3 #[aA,aB,.slice p n a]]from M7)
  generalize d:World.setCell _ _ _=wz;rw[d]at M8;clear d HM M6 M7 v0 v1 v2 z_;have y_:=(M8.bk 2).tri;exact bodyPost_ret (v:=aH aA aB q n c) (by simp[results,results132,go_sem, *]) rfl (tM (by exact(aBx l xs x.out).2.trans h.out) (M8.ow 0) M8.ext)
theorem aBo (aA aB:Int)(p:OA)(n a:Nat)(xs:List Int)(lq:OA)(m lc:Nat)(l:List Sl2)(w:World)(c:l.length=m)(hS:Sl w p n a 1 (ivs xs))(b:aN aA aB xs=true)(hL:Sl w lq m lc 2 (l.flatMap aM)):
  U 132 #[aH aA aB p n a,.slice lq m lc] w (dN aA aB (eX aA aB xs l) w):=by
 have hl:=hS.ilen;subst hl;obtain⟨g1,g2,g3,g4,g5,g6,g7,g8,g9⟩:=bN b;exact aFy aA aB p xs.length a xs lq m lc l w c rfl b hL (fun w' hx=>mT aA aB p xs.length a xs w' (by omega) (hS.ext hx))
theorem aP2 (aA aB:Int)(p:OA)(n b F:Nat)(fr:List Nat)(xs:List Int)(w:World)(hg:Hid ((aA,n)∈jW))(hF:Hid (fr.length=F))(ah:F≤12)(m:Hid (∀x∈fr,x<n))
  (HF:xC 168 #[aH aA aB p n b] w fun w' e w''=> ∃q c,e= .returned (.slice q F c)∧w''.ownsRow w' TI 1 (.slice q F c) F (ivs (bK fr))∧Ext w' w'')
  (o:Hid (∀(u:Nat),u<n→ ∀w',Ext w w'→U 169 #[aH aA aB p n b,u,(),(-1:Int)] w' (bC (bK (dK aA n 12 u)) w')))
  (ad:Hid (∀(u:Nat),dM aA fr=some u→ ∀w' q W c,Ext w w'→Sl w' q W c 1 (ivs (bK (dK aA n 12 u)))→U 170 #[aH aA aB p n b,.slice q W c] w' (gH (cO xs u (dK aA n 12 u).tail).2 w'))):
  U 130 #[aH aA aB p n b] w (rB ((dM aA fr).map fun u=>cO xs u (dK aA n 12 u).tail) w):=by
 have ak: ∀(w:World) (a:OA) (n c n' c':Nat),(binOp .eql 23 (.slice a n c) (.slice none n' c')).run prog w= .ok (.bool a.isNone) w:=fun w a n c n' c'=>Lib.run_eql_slice_nil w _ _ a n c n' c' underlying23
 go_enter func130,ntmps130;go_wp2_with fail;refine(HF _ ((Mem.start w).c0 TH3 #[aA,aB,.slice p n b]).ext).mono ?_;rintro e w1 ⟨q1,c1,rfl,y,aa⟩;have M1:=(((Mem.start w).c0 TH3 #[aA,aB,.slice p n b]).call aa y)
 clear aa y;have M2:=(show Mem w w1 [aJ w TI 1 (none) (0) (0) (ivs (bK (mN aA n (dM aA (fr.take 0))))),aJ w TI 1 (q1) (F) (c1) (ivs (bK fr)),aI w w TH3 #[aA,aB,.slice p n b]]from(M1.ownNew (Ext.refl _) (aTe _ _ TI 1) (aT5 _)))
 clear M1;go_wp2;go_loopw [4,11] (fun v i wr=> ∃(k:Nat) (qb:OA) (l lb:Nat),k≤F∧i=I k∧v= .slice qb l lb∧l=(mN aA n (dM aA (fr.take k))).length∧qb.isNone=decide (l=0)∧Mem w wr [aJ w TI 1 (qb) (l) (lb) (ivs (bK (mN aA n (dM aA (fr.take k))))),aJ w TI 1 (q1) (F) (c1) (ivs (bK fr)),aI w w TH3 #[aA,aB,.slice p n b]]) (fun _ i _=>F-(intOf i).toNat)
 case atStart=>exact⟨0,none,0,0,aTd _,rfl,rfl,rfl,rfl,M2⟩
 case round=>
  clear M2;obtain⟨k,qb,l,lb,hk,rfl,rfl,hl,z,hM⟩:=hrel;have HM:=hM;have d:=xQ hl;have HQ:=xQ z;clear hM hl z;by_cases hlt:k<F
  ·obtain⟨u,hu⟩: ∃u,fr[k]? =some u:=⟨_,aT6 (by rw[hF.out];exact hlt)⟩
   have f:u<n:=m.out u (aT7 hu);obtain⟨gf,rfl,ai,aj⟩:=HM.so 1;have cu:wr.cell? ⟨gf,k,none⟩=some (I u):=by have:=(HM.ow 1).cellAt k (by omega);rw[this];simp[ivs,bK,hu]
   obtain⟨g,h⟩:=aBg hg.out (l:=fr.take k) (fun x hx=>m.out x (aUl hx)) f;rw[←bA hu,←d.out]at g h;obtain⟨k1,k2,k3⟩:=lI hg.out f;obtain⟨W,hW⟩: ∃W,W=(dK aA n 12 u).length:=⟨_,rfl⟩
   rw[←hW]at k1 k2 g h;have r:=xQ g;have ae:=xQ h;have j:=xQ hW;have HC:=xQ (fun w' (hx:Ext w w')=>o u f w' hx);clear hu g h hW k3;have i1:=aVt k;have i2:=aVu k F;have b_:=(HM.bk 2).tri;go_wp2_with fail;clear b_ cu;refine(HC _ HM.ext).mono ?_;rintro e w5 ⟨q7,c7,rfl,o7,ab⟩;have af:(bK (dK aA n 12 u)).length=W:=by rw[j.out];simp[bK]
   rw[af]at o7⊢;have M5:=(HM.call ab o7)
   clear o7 ab HM HC;obtain⟨g7,rfl,s,t⟩:=M5.some (i:=0) rfl k1;clear s t;by_cases h0:l=0
   ·have hn:=xQ (r (.inl h0));have hq:qb.isNone=true:=by rw[HQ.out,h0];rfl
    clear h0;go_wp2;go_roundw
    case rel=>exact⟨k+1,some ⟨g7,0,none⟩,W,c7,by omega,by go_num,rfl,by rw[hn.out];exact j.out,by simp;omega,by rw[hn.out];exact M5.pick [0,2,3] (by decide) rfl⟩
    case measure=>simp[intOf];omega
   have hq:qb.isNone=false:=by rw[HQ.out];simp[h0]
   by_cases h1:W<l
   ·have hn:=xQ (r (.inr h1));have t2:=aVu W l;clear h0;go_wp2;go_roundw
    case rel=>exact⟨k+1,some ⟨g7,0,none⟩,W,c7,by omega,by go_num,rfl,by rw[hn.out];exact j.out,by simp;omega,by rw[hn.out];exact M5.pick [0,2,3] (by decide) rfl⟩
    case measure=>simp[intOf];omega
   have hn:=xQ (ae (by omega));have t2: ¬((W:Int)<(l:Int)):=by omega
   clear h0;go_wp2;go_roundw
   case rel=>exact⟨k+1,qb,l,lb,by omega,by go_num,rfl,by rw[hn.out];exact d.out,HQ.out,by rw[hn.out];exact M5.pick [1,2,3] (by decide) rfl⟩
   case measure=>simp[intOf];omega
  obtain rfl:F=k:=by omega
  rw[show fr.take F=fr by rw[←hF.out];exact aUv]at HM d;have b_:=(HM.bk 2).tri;cases hne:dM aA fr with
  |none=>
   have hq:qb.isNone=true:=by rw[HQ.out,d.out,hne];rfl
   have hE:=xQ HM.ext;clear HM d;go_wp2;exact bodyPost_ret (v:= .tuple #[((),()),.bool false]) (by simp[results,results130,go_sem, *]) rfl (by rw[hne];exact⟨_,rfl,by have:=hE.out;exact xE⟩)
  |some u=>
   have f:u<n:=m.out u ((lM aA fr).2 u hne);obtain⟨k1,k2,k3⟩:=lI hg.out f;rw[hne]at HM d;have hq:qb.isNone=false:=by rw[HQ.out,d.out];exact decide_eq_false (by show¬(dK aA n 12 u).length=0;omega)
   have HH:=xQ (ad u hne);clear k1 k2 k3;go_wp2_with fail;clear b_;refine(HH _ qb l lb HM.ext (HM.sq 0)).mono ?_;rintro e w9 ⟨q9,c9,rfl,o9,ag⟩;have HX:=xQ HM.ext;clear HM;go_wp2;exact bodyPost_ret (v:= .tuple #[.slice q9 (cO xs u (dK aA n 12 u).tail).2.length c9,.bool true]) (by simp[results,results130,go_sem, *]) rfl (by rw[hne];exact⟨q9,c9,rfl,bM o9 HX.out.sz,HX.out.trans ag⟩)
theorem aSc (aA aB:Int)(p:OA)(n a:Nat)(xs:List Int)(w:World)(hS:Sl w p n a 1 (ivs xs))(b:aN aA aB xs=true):
  U 130 #[aH aA aB p n a] w (rB (jA aA xs) w):=by
 have hl:=hS.ilen;subst hl;have hg:=lA b;obtain⟨g1,g2,g3,g4,g5,g6,g7,g8,g9⟩:=bN b;have f:(bP xs).length≤xs.length:=by unfold bP;exact aTg (aUb _ _) (by simp)
 refine aP2 aA aB p xs.length a (bP xs).length (bP xs) xs w hg rfl (by omega) (fun x hx=>(lC hx).1) (fun w' hx=> ?_) (fun u hu w' hx=>aS4 aA aB p xs.length a u xs w' (hS.ext hx) b hu) (fun u hne w' q W c hx hL=> ?_)
 ·have:=aSa aA aB p xs.length a xs w' (hS.ext hx);rw[if_pos b,uG]at this;refine this.mono fun e w'' h1=> ?_
  obtain⟨q,c,h2,h3,h4⟩:=h1;rw[aU1]at h2 h3;exact⟨q,c,h2,h3,h4⟩
 obtain⟨hu,d⟩:=lC ((lM aA _).2 u hne);exact aS8 aA aB p xs.length a xs q W c u w' (hS.ext hx) b hu d hL
end Go.Proofs.YthfmmibomhhmpaaGreatDoor
