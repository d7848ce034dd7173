/-
  Texts of this proof, packed (@packed).
-/
import Derived.Test.YtbgkcehffiogcacGreatDoorQ26
namespace Go.Proofs.YtbgkcehffiogcacGreatDoor
open Go.RowKit Go.Proofs.Tryz
set_option linter.unusedSimpArgs false
set_option linter.unusedVariables false
set_option maxHeartbeats 8000000
set_option maxRecDepth 100000
theorem aNe (aA aB:Int)(pb po:Nat)(n cap:Nat)(xs:List Int)(b c m c2 u:Nat)(q ws:List Nat)(w:World)(c8:4≤n)(hn:n≤12)(c6:0<m)(hm:m≤12)(bw:Hid (ws=u::q))(ai:Hid (ws.length=m))(hb:b<w.heap.size)(cn:pb<w.heap.size)
  (cm:Hid (aO aA aB xs=true))(am:Hid (xs.length=n))(hu:u<n)(cp:Hid (xs.getD u 0=0))(co:Hid (nQ aA n u q))
  (HS:Hid (∀(k x:Nat),ws[k]? =some x→w.cell? ⟨b,c+k,none⟩=some (I x))) (bd:w.cell? ⟨b,c,none⟩=some (I u)) (b5:w.cell? ⟨pb,po+u,none⟩=some (I 0))
  (HV:xB 72 #[aH aA aB (some ⟨pb,po,none⟩) n cap] w true)
  (HH:Hid (∀w',U 159 #[aH aA aB (some ⟨pb,po,none⟩) n cap,u] w' (O (.bool true) w')))
  (bv:Hid (∀(k x y:Nat),1≤k→ws[k-1]? =some x→ws[k]? =some y→ ∀w',Ext w w'→U 218 #[aH aA aB (some ⟨pb,po,none⟩) n cap,x,y] w' (O (I 1) w')))
  (HK:Hid (∀w',Ext w w'→U 86 #[aH aA aB (some ⟨pb,po,none⟩) n cap] w' (eC aA aB xs w'))):
  U 191 #[aH aA aB (some ⟨pb,po,none⟩) n cap,.slice (some ⟨b,c,none⟩) m c2] w (iK (cI xs u q).2 w):=by
 have j1:(0:Int)≤(u:Int):=by omega
 have j2:(u:Int)<(n:Int):=by omega
 have j4:((m:Int)==0)=false:=by first|(simp;done)|(simp;omega)
 go_enter func191,ntmps191;have ME:=((Mem.start w).c0 TH3 #[aA,aB,.slice (some ⟨pb,po,none⟩) n cap])
 go_wp2;refine rL (gl [gEq (.agg #[aA,aB,.slice (some ⟨pb,po,none⟩) n cap]),gEq (.bool true),gEq (.bool false),gEq (.bool false),gEq (.slice (some ⟨b,c,none⟩) m c2),gEq (m:Int),gEq (.bool false),gEq (.bool false),gEq (.bool false),gEq (.agg #[aA,aB,.slice (some ⟨pb,po,none⟩) n cap]),gEq (.slice (some ⟨b,c,none⟩) m c2),gEq (.pointer (some ⟨b,c,none⟩)),gEq (u:Int),gEq (.bool true),gEq (.bool false),gEq (.bool false),gEq (.bool false),gEq (.pointer (some ⟨w,2,none⟩)),gEq (.slice (some ⟨pb,po,none⟩) n cap),gEq (.slice (some ⟨b,c,none⟩) m c2),gEq (.pointer (some ⟨b,c,none⟩)),gEq (u:Int),gEq (.pointer (some ⟨pb,po+u,none⟩)),gEq (I 0),gEq (.bool false),gEq (.bool false)]) 26 26 [(0,some 9),(1,some 10),(2,some 11),(3,some 12),(4,some 13),(5,some 14),(6,some 15),(7,some 16),(8,some 17),(9,some 18),(10,some 19),(11,some 20),(12,some 21),(13,some 22),(14,some 23),(15,some 24),(16,some 25),(17,some 26),(18,some 27),(19,some 28),(20,some 29),(21,some 30),(22,some 31),(23,some 32),(24,some 33),(25,some 34)] ?steps ?fin
 case steps=>
  refine sC [] rfl (fun wi hx=> ?_) ?_
  ·intro K hK;have hX:Ext (w.alloc (.cells #[aA,aB,.slice (some ⟨pb,po,none⟩) n cap] TH3)) wi:=xE;obtain⟨d,bb,bc⟩:=((ME.bk 0).ext hX).tri;go_simp;exact hK _ _ ⟨.agg #[aA,aB,.slice (some ⟨pb,po,none⟩) n cap],rfl,rfl,Ext.refl _⟩
  refine sC [(0,some 9)] rfl (fun wi hx=> ?_) ?_
  ·intro v0 h0 K hK;obtain rfl:=h0;have hX:Ext w wi:=xE;go_wp2_with fail;refine Z (HV _ hX) fun w5 af=>?_
   go_simp;exact hK _ _ ⟨.bool true,rfl,rfl,af⟩
  refine sS1 [(1,some 10)] (sS1 [(2,some 11)] (sS1 [(3,some 12)] (sS2 [(3,some 12),(4,some 13)] (sS2 [(3,some 12),(5,some 14)] (sS2 [(3,some 12),(6,some 15)] (sS1 [(7,some 16)] ?_))))));refine sC [(8,some 17)] rfl (fun wi hx=> ?_) ?_
  ·intro v8 h8 K hK;obtain rfl:=h8;have hX:Ext (w.alloc (.cells #[aA,aB,.slice (some ⟨pb,po,none⟩) n cap] TH3)) wi:=xE;obtain⟨d,bb,bc⟩:=((ME.bk 0).ext hX).tri;go_simp;exact hK _ _ ⟨.agg #[aA,aB,.slice (some ⟨pb,po,none⟩) n cap],rfl,rfl,Ext.refl _⟩
  refine sS1 [(8,some 17)] (sS2 [(8,some 17),(10,some 19)] ?_);refine sC [(8,some 17),(11,some 20)] rfl (fun wi hx=> ?_) ?_
  ·intro v8 h8 bt t K hK;obtain rfl:=h8;obtain rfl:=t;have hX:Ext (w.alloc (.cells #[aA,aB,.slice (some ⟨pb,po,none⟩) n cap] TH3)) wi:=xE;have d:wi.cell? ⟨b,c,none⟩=some (I u):=(ME.ext.trans hX).cells.1 _ _ hb |>.trans bd;go_simp;exact hK _ _ ⟨I u,rfl,rfl,Ext.refl _⟩
  refine sC [(8,some 17),(9,some 18),(12,some 21)] rfl (fun wi hx=> ?_) ?_
  ·intro v8 h8 v9 h9 cw aw K hK;subst h8 h9;obtain rfl:=aw;have hX:Ext w wi:=xE;go_wp2_with fail;refine Z (HH _) fun w5 af=>?_
   go_simp;exact hK _ _ ⟨.bool true,rfl,rfl,af⟩
  refine sS2 [(8,some 17),(13,some 22)] (sS2 [(8,some 17),(14,some 23)] (sS1 [(15,some 24)] (sS1 [(16,some 25)] ?_)));refine sC [(16,some 25),(17,some 26)] rfl (fun wi hx=> ?_) ?_
  ·intro a6 o cz ax K hK;obtain rfl:=o;obtain rfl:=ax;have hX:Ext (w.alloc (.cells #[aA,aB,.slice (some ⟨pb,po,none⟩) n cap] TH3)) wi:=xE;have d:=((ME.bk 0).ext hX).cl 2;go_simp;exact hK _ _ ⟨.slice (some ⟨pb,po,none⟩) n cap,rfl,rfl,Ext.refl _⟩
  refine sS1 [(16,some 25)] (sS2 [(16,some 25),(19,some 28)] ?_);refine sC [(16,some 25),(20,some 29)] rfl (fun wi hx=> ?_) ?_
  ·intro a6 o c1 ay K hK;obtain rfl:=o;obtain rfl:=ay;have hX:Ext (w.alloc (.cells #[aA,aB,.slice (some ⟨pb,po,none⟩) n cap] TH3)) wi:=xE;have d:wi.cell? ⟨b,c,none⟩=some (I u):=(ME.ext.trans hX).cells.1 _ _ hb |>.trans bd;go_simp;exact hK _ _ ⟨I u,rfl,rfl,Ext.refl _⟩
  refine sS3 [(16,some 25),(18,some 27),(21,some 30)] ?_;refine sC [(16,some 25),(22,some 31)] rfl (fun wi hx=> ?_) ?_
  ·intro a6 o c3 az K hK;obtain rfl:=o;obtain rfl:=az;have hX:Ext (w.alloc (.cells #[aA,aB,.slice (some ⟨pb,po,none⟩) n cap] TH3)) wi:=xE;have d:wi.cell? ⟨pb,po+u,none⟩=some (I 0):=(ME.ext.trans hX).cells.1 _ _ cn |>.trans b5;go_simp;exact hK _ _ ⟨I 0,rfl,rfl,Ext.refl _⟩
  exact sS2 [(16,some 25),(23,some 32)] (sS2 [(16,some 25),(24,some 33)] StepsL.nil)
 case fin=>
  intro wi hx v0 h0 v1 h1 v2 h2 v3 h3 v4 h4 v5 h5 v6 h6 v7 h7 v8 h8 v9 h9 cv av bt t cw aw db b6 dc b7 dd b8 a6 o cz ax de b9 df cc c1 ay dg cd c3 az dh ce di cf dj cg;subst h0 h1 h2 h3 h4 h5 h6 h7 h8 h9;obtain rfl:=av;obtain rfl:=t;obtain rfl:=aw;obtain rfl:=b6;obtain rfl:=b7;obtain rfl:=b8;obtain rfl:=o;obtain rfl:=ax;obtain rfl:=b9;obtain rfl:=cc;obtain rfl:=ay;obtain rfl:=cd;obtain rfl:=az;obtain rfl:=ce;obtain rfl:=cf;obtain rfl:=cg;have hX:Ext (w.alloc (.cells #[aA,aB,.slice (some ⟨pb,po,none⟩) n cap] TH3)) wi:=hx.of_drew;have M1:=(ME.adv hX)
  clear ME hX hx;refine wpAny_done (by kernel_rfl) ?_ _;try go_frame
  go_wp2;go_loopw [5] (fun i wr=> ∃(k:Nat),1≤k∧k≤m∧i=I k∧Mem w wr [aJ w w TH3 #[aA,aB,.slice (some ⟨pb,po,none⟩) n cap]]) (fun i _=>m-(intOf i).toNat)
  case atStart=>exact⟨1,aRp _,by omega,rfl,M1⟩
  case round=>
   clear M1;obtain⟨k,bi,hk,rfl,hM⟩:=hrel;have HM:=hM;clear hM;by_cases hlt:k<m
   ·obtain⟨x,hx⟩: ∃x,ws[k-1]? =some x:=⟨_,aRq (by rw[ai.out];omega)⟩
    obtain⟨y,hy⟩: ∃y,ws[k]? =some y:=⟨_,aRq (by rw[ai.out];omega)⟩
    have ca:wr.cell? ⟨b,c+(k-1),none⟩=some (I x):=(HM.ext.cells.1 _ _ hb).trans (HS (k-1) x hx);have cb:wr.cell? ⟨b,c+k,none⟩=some (I y):=(HM.ext.cells.1 _ _ hb).trans (HS k y hy);have aa:b<wr:=aRo hb HM.ext.sz;have a7:=xQ (bv k x y bi hx hy);clear hx hy;have i1:(0:Int)≤(k:Int):=by omega
    have i2:(k:Int)<(m:Int):=by omega
    have i3:(k:Int)-1<(m:Int):=by omega
    have i4:((k:Int)-1).toNat=k-1:=by omega
    have i5:(1:Int)≤(k:Int):=by omega
    go_wp2;refine rL (gl [gEq (.agg #[aA,aB,.slice (some ⟨pb,po,none⟩) n cap]),gEq (.slice (some ⟨b,c,none⟩) m c2),gEq (k:Int),gEq ((k:Int)-1:Int),gEq (.pointer (some ⟨b,c+(k-1),none⟩)),gEq (x:Int),gEq (.slice (some ⟨b,c,none⟩) m c2),gEq (k:Int),gEq (.pointer (some ⟨b,c+k,none⟩)),gEq (y:Int),gEq (I 1),gEq (.bool false)]) 12 12 [(0,some 41),(1,some 42),(2,some 43),(3,some 44),(4,some 45),(5,some 46),(6,some 47),(7,some 48),(8,some 49),(9,some 50),(10,some 51),(11,some 52)] ?steps ?fin
    case steps=>
     refine sC [] rfl (fun wi hx=> ?_) ?_
     ·intro K hK;have hX:Ext wr wi:=xE;obtain⟨d,bb,bc⟩:=((HM.bk 0).ext hX).tri;go_simp;exact hK _ _ ⟨.agg #[aA,aB,.slice (some ⟨pb,po,none⟩) n cap],rfl,rfl,Ext.refl _⟩
     refine sS0 [] (sS0 [] ?_);refine sC [(2,some 43)] rfl (fun wi hx=> ?_) ?_
     ·intro v2 h2 K hK;obtain rfl:=h2;have c9:IntKind.i64.wrap ((k:Int)-1)=(k:Int)-1:=aRr _ (by omega);go_simp;exact hK _ _ ⟨I ((k:Int)-1),rfl,rfl,Ext.refl _⟩
     refine sS2 [(1,some 42),(3,some 44)] ?_;refine sC [(4,some 45)] rfl (fun wi hx=> ?_) ?_
     ·intro v4 h4 K hK;obtain rfl:=h4;have hX:Ext wr wi:=xE;have d:wi.cell? ⟨b,c+(k-1),none⟩=some (I x):=(hX.cells.1 _ _ aa).trans ca;go_simp;exact hK _ _ ⟨I x,rfl,rfl,Ext.refl _⟩
     refine sS0 [] (sS0 [] (sS2 [(6,some 47),(7,some 48)] ?_));refine sC [(8,some 49)] rfl (fun wi hx=> ?_) ?_
     ·intro v8 h8 K hK;obtain rfl:=h8;have hX:Ext wr wi:=xE;have d:wi.cell? ⟨b,c+k,none⟩=some (I y):=(hX.cells.1 _ _ aa).trans cb;go_simp;exact hK _ _ ⟨I y,rfl,rfl,Ext.refl _⟩
     refine sC [(0,some 41),(5,some 46),(9,some 50)] rfl (fun wi hx=> ?_) ?_
     ·intro v0 h0 v5 h5 v9 h9 K hK;subst h0 h5 h9;have hX:Ext wr wi:=xE;go_wp2_with fail;refine Z (a7 _ (HM.ext.trans hX)) fun w5 af=>?_
      go_simp;exact hK _ _ ⟨I 1,rfl,rfl,af⟩
     exact sS1 [(10,some 51)] StepsL.nil
    case fin=>
     intro wi hx v0 h0 v1 h1 v2 h2 v3 h3 v4 h4 v5 h5 v6 h6 v7 h7 v8 h8 v9 h9 cv av bt t;subst h0 h1 h2 h3 h4 h5 h6 h7 h8 h9;obtain rfl:=av;obtain rfl:=t;have hX:Ext wr wi:=hx.of_drew;have M2:=(HM.adv hX)
     clear HM hX hx ca cb a7;refine wpAny_done (by kernel_rfl) ?_ _;try go_frame
     go_wp2;go_roundw
     case rel=>exact⟨k+1,by omega,by omega,by go_num,M2⟩
     case measure=>simp[intOf];omega
   obtain rfl:m=k:=by omega
   have b0:=(HM.bk 0).tri;obtain⟨h0,h1,h2⟩:=b0;go_wp2_with fail;clear h0 h1 h2;refine(HK _ HM.ext).mono ?_;rintro e w2 ⟨q0,c0,rfl,o2,bp⟩;rw[am.out]at o2⊢;have M2:=(HM.call bp o2)
   clear o2 bp HM;obtain⟨g,rfl,ch,ci⟩:=M2.so 0;clear ch ci;have M3:=(M2.c0 TH3 #[aA,aB,.slice (some ⟨g,0,none⟩) n c0])
   have M4:=(show Mem w _ [aI w TI 1 (some ⟨g,0,none⟩) (n) (c0) (ivs (xs)),aI w TSL 2 (none) (0) (0) (([]).flatMap aM),aJ w w2 TH3 #[aA,aB,.slice (some ⟨g,0,none⟩) n c0],aJ w w TH3 #[aA,aB,.slice (some ⟨pb,po,none⟩) n cap]]from(M3.ownNew (Ext.refl _) (aS4 _ _ TSL 2) (aRp _)).pick [2,0,1,3] (by decide) rfl)
   clear M2 M3;obtain⟨gV,a0⟩: ∃gV,gV=w2.heap.size:=⟨_,rfl⟩
   rw[←a0]at M4;go_wp2;rw[←a0];clear a0;go_loopw [6,8] (fun v i wr=> ∃(k x:Nat) (rest:List Nat) (ys:List Int) (q5:OA) (l lc:Nat) (sl:List Sl2),1≤k∧k≤m∧i=I k∧v= .slice q5 l lc∧l=sl.length∧l≤k∧ws.drop (k-1)=x::rest∧aO aA aB ys=true∧ys.length=n∧x<n∧ys.getD x 0=0∧nQ aA n x rest∧sl++(cI ys x rest).2=(cI xs u q).2∧Mem w wr [aI w TI 1 (some ⟨g,0,none⟩) (n) (c0) (ivs (ys)),aI w TSL 2 (q5) (l) (lc) (sl.flatMap aM),aJ w (gV) TH3 #[aA,aB,.slice (some ⟨g,0,none⟩) n c0],aJ w w TH3 #[aA,aB,.slice (some ⟨pb,po,none⟩) n cap]]) (fun _ i _=>m-(intOf i).toNat)
   case atStart=>exact⟨1,u,q,xs,none,0,0,[],aRp _,by omega,rfl,rfl,rfl,by omega,by rw[bw.out];rfl,cm.out,am.out,hu,cp.out,co.out,rfl,M4⟩
   case round=>
    clear M4;obtain⟨k,x,rest,ys,q5,l,lc,sl,bi,hk,rfl,rfl,hl,c5,bg,ao,bl,bq,bo,aq,ap,hM⟩:=hrel;have ag:=xQ bg;have ak:=xQ ao;have f:=xQ bl;have a9:=xQ bo;have al:=xQ aq;have s:=xQ ap;have au:=xQ hl;have HM:=hM;clear bg ao bl bo aq ap hM hl;by_cases hlt:k<m
    ·obtain⟨y,rest',p⟩: ∃y rest',rest=y::rest':=by
      have h1:=congrArg List.length ag.out;rw[aTg,ai.out]at h1;cases rest with
      |nil=>simp at h1;omega
      |cons y r=>exact⟨y,r,rfl⟩
     subst p;have a3:ws[k-1]? =some x:=by have:=congrArg (fun z=>z[0]?) ag.out;simpa using this
     have ab:ws.drop k=y::rest':=by have:=congrArg List.tail ag.out;rw[List.tail_drop,show k-1+1=k by omega]at this;exact this
     have a4:ws[k]? =some y:=by have:=congrArg (fun z=>z[0]?) ab;simpa using this
     have a8:=xQ ab;have ah:y∈aS aA n x:=al.out.1;have a2:y<n:=(bU.1 ah).1;have bf:aX aA (x:Int) (y:Int)=1:=(bU.1 ah).2;have br: ¬(x=y):=by
      intro e;subst e;have:aX aA (x:Int) (x:Int)=0:=by unfold aX qT;simp
      omega
     have bu:=xQ ah;have ca:wr.cell? ⟨b,c+(k-1),none⟩=some (I x):=(HM.ext.cells.1 _ _ hb).trans (HS (k-1) x a3);have cb:wr.cell? ⟨b,c+k,none⟩=some (I y):=(HM.ext.cells.1 _ _ hb).trans (HS k y a4);have aa:b<wr:=aRo hb HM.ext.sz;have bx:=xQ a3;have bz:=xQ a4;clear ab ah a3 a4 bf;obtain⟨z,hz⟩: ∃z,z=ys.getD y 0:=⟨_,rfl⟩
     have HZ:=xQ hz;have cy:wr.cell? ⟨g,y,none⟩=some (I z):=by have h1:=(dL (D:=ys) (v:=y) (by rw[f.out];exact a2)).1;rw[←hz]at h1;have:=(HM.ow 0).cellAt y (by omega);rw[this];simp only[ivs,aS9,h1,aSm]
     clear hz;have v2:=(HM.bk 2).cl 2;have i1:(0:Int)≤(k:Int):=by omega
     have i2:(k:Int)<(m:Int):=by omega
     have i3:(k:Int)-1<(m:Int):=by omega
     have i4:((k:Int)-1).toNat=k-1:=by omega
     have i5:(1:Int)≤(k:Int):=by omega
     have i6:(0:Int)≤(y:Int):=by omega
     have i7:(y:Int)<(n:Int):=by omega
     have i8:(0:Int)≤(x:Int):=by omega
     have i9:(x:Int)<(n:Int):=by omega
     have da:IntKind.i64.wrap ((k:Int)-1)=(k:Int)-1:=aRr _ (by omega);go_upto_block 3 with fail;go_cut [6,8]from 61 to 105 (fun s6 s8 wx=> ∃(ys':List Int) (q':OA) (l' lc':Nat) (sl':List Sl2),s6= .slice q' l' lc'∧s8=I k∧l'=sl'.length∧l'≤k+1∧aO aA aB ys'=true∧ys'.length=n∧ys'.getD y 0=0∧sl'++(cI ys' y rest').2=(cI xs u q).2∧Mem w wx [aI w TI 1 (some ⟨g,0,none⟩) (n) (c0) (ivs (ys')),aI w TSL 2 (q') (l') (lc') (sl'.flatMap aM),aJ w (gV) TH3 #[aA,aB,.slice (some ⟨g,0,none⟩) n c0],aJ w w TH3 #[aA,aB,.slice (some ⟨pb,po,none⟩) n cap]])
     case first=>
      go_wp2;go_quiet (fail);generalize aj:World.drewN _ _=wq;have MQ:=(show Mem w wq [aI w TI 1 (some ⟨g,0,none⟩) (n) (c0) (ivs (ys)),aI w TSL 2 (q5) (l) (lc) (sl.flatMap aM),aJ w (gV) TH3 #[aA,aB,.slice (some ⟨g,0,none⟩) n c0],aJ w w TH3 #[aA,aB,.slice (some ⟨pb,po,none⟩) n cap]]from by rw[←aj];exact HM.adv xE)
      have b2:wq.cell? ⟨b,c+(k-1),none⟩=some (I x):=by rw[←aj];simpa using ca
      have b4:wq.cell? ⟨b,c+k,none⟩=some (I y):=by rw[←aj];simpa using cb
      clear aj HM ca cb cy v2 aa;by_cases hz0:z=0
      ·have t0:(z !=0)=false:=by simp[hz0]
       have ba:=xQ (show ys.getD y 0=0 by rw[←HZ.out];exact hz0);have hr:=xQ (rI (a:=x) (l:=rest') ba.out);clear hz0;go_wp2_with fail;go_meet
       case rel=>exact⟨ys,q5,l,lc,sl,rfl,rfl,au.out,by omega,ak.out,f.out,ba.out,by rw[←s.out,hr.out],MQ⟩
      have t0:(z !=0)=true:=by simp[hz0]
      have a5: ¬ys.getD y 0=0:=by rw[←HZ.out];exact hz0
      obtain⟨n1,n2,n3⟩:=uD ak (by rw[f.out];exact bq) a9 (by rw[f.out];exact bu.out) a5;have a1:=pH (a:=x) (l:=rest') a5;rw[←HZ.out]at n1 n2 n3 a1;have hr:=xQ a1;have N1:=xQ n1;have N2:=xQ n2;have N3:=xQ n3;clear n1 n2 n3 hz0 a5 a1;go_wp2_with fail
      go_region_held3 (fun w'=>w'.cell? ⟨b,c+k,none⟩=some (I y)∧w'.cell? ⟨b,c+(k-1),none⟩=some (I x)) (first|(refine⟨?_,?_⟩<;>assumption)|go_keep) (first
       |(refine gH sX (by rfl) _ _ (by rfl) (MQ.adv (by first|exact(Ext.refl _).alloc _|exact Ext.drew ((Ext.refl _).alloc _)|exact xE)) 1 (by rfl) (by rfl) (aM ((y:Int),(x:Int))) (by rfl) (by first|exact eJ _ _ _ 1 2 _ (by simp) (by simp) (by simp[maxLen])|exact(eJ wq #[y,x] TSL 1 2 _ (by simp) (by simp) (by simp[maxLen])).ext (Ext.drew (Ext.refl _))) (nU _ _) (by omega) ?_
         intro q7 c7 w6 M6;have M7:=(show Mem w w6 [aI w TI 1 (some ⟨g,0,none⟩) (n) (c0) (ivs (ys)),aI w TSL 2 (q7) (l+1) (c7) ((sl++ [((y:Int),(x:Int))]).flatMap aM),aJ w (gV) TH3 #[aA,aB,.slice (some ⟨g,0,none⟩) n c0],aJ w w TH3 #[aA,aB,.slice (some ⟨pb,po,none⟩) n cap]]from by have h:=M6;simpa only[aS1,aS2,aSk,aSn,List.flatMap_nil,aSe]using h)
         clear M6;have b3:w6.cell? ⟨b,c+k,none⟩=some (I y):=(M7.ext.cells.1 _ _ hb).trans (HS k y bz.out)
         have b1:w6.cell? ⟨b,c+(k-1),none⟩=some (I x):=(M7.ext.cells.1 _ _ hb).trans (HS (k-1) x bx.out)))
      clear MQ b2 b4;have v2:=(M7.bk 2).cl 2;have cy:w6.cell? ⟨g,y,none⟩=some (I z):=by have h1:=(dL (D:=ys) (v:=y) (by rw[f.out];exact a2)).1;rw[←HZ.out]at h1;have:=(M7.ow 0).cellAt y (by omega);rw[this];simp only[ivs,aS9,h1,aSm]
      have cx:w6.cell? ⟨g,x,none⟩=some (I 0):=by have h1:=(dL (D:=ys) (v:=x) (by rw[f.out];exact bq)).1;rw[a9.out]at h1;have:=(M7.ow 0).cellAt x (by omega);rw[this];simp only[ivs,aS9,h1,aSm]
      have fy:w6.frozen? ⟨g,y,none⟩=false:=(M7.ow 0).frozenAt y;have fx:w6.frozen? ⟨g,x,none⟩=false:=(M7.ow 0).frozenAt x;have bs: ¬(g=gV):=M7.ne (i:=0) (j:=2) (by omega) rfl rfl rfl rfl;have cq: ¬(gV=g):=fun e=>bs e.symm
      have cj:w.heap.size≤g:=(M7.lt (i:=0) rfl rfl).1;have cr: ¬(g=b):=by omega
      have cs: ¬(b=g):=by omega
      have ct: ¬(x=y):=br;have cu: ¬(y=x):=fun e=>br e.symm
      go_upto_region 15 with fail;go_region;clear v2 cy cx fy fx bs cq cj cr cs ct cu b1 b3;have MX:=(show Mem w ((w6.setCell ⟨g,x,none⟩ (I z)).setCell ⟨g,y,none⟩ (I 0)) [aI w TI 1 (some ⟨g,0,none⟩) (n) (c0) (ivs ((ys.set x z).set y 0)),aI w TSL 2 (q7) (l+1) (c7) ((sl++ [((y:Int),(x:Int))]).flatMap aM),aJ w (gV) TH3 #[aA,aB,.slice (some ⟨g,0,none⟩) n c0],aJ w w TH3 #[aA,aB,.slice (some ⟨pb,po,none⟩) n cap]]from by rw[←eF,←eF];exact(M7.ostore (i:=0) rfl x (I z)).ostore (i:=0) rfl y (I 0))
      have MY:=(MX.adv (Ext.drew (Ext.refl _)))
      generalize bm:World.drew _=w8;rw[bm]at MY;clear bm MX M7;go_wp2_with fail;go_meet
      case rel=>exact⟨(ys.set x z).set y 0,q7,l+1,c7,sl++ [((y:Int),(x:Int))],rfl,rfl,by rw[aRx,←au.out];rfl,by omega,N1.out,by rw[N2.out,f.out],N3.out,by rw[←s.out,hr.out];simp,MY⟩
     case rest=>
      obtain⟨ys',q',l',lc',sl',rfl,rfl,bj,c4,an,ad,ar,ae,be⟩:=hcut;have h1:=xQ bj;have h2:=xQ an;have h3:=xQ ad;have h4:=xQ ar;have h5:=xQ ae;have h6:=xQ be;clear bj an ad ar ae be HM ca cb cy v2 aa;go_wp2;go_roundw
      case rel=>exact⟨k+1,y,rest',ys',q',l',lc',sl',by omega,by omega,by go_num,rfl,h1.out,by omega,by rw[aU4];exact a8.out,h2.out,h3.out,a2,h4.out,al.out.2,h5.out,h6.out⟩
      case measure=>simp[intOf];omega
    obtain rfl:m=k:=by omega
    have p:rest= []:=by
     have h1:=congrArg List.length ag.out;rw[aTg,ai.out]at h1;cases rest with
     |nil=>rfl
     |cons y r=>simp at h1;omega
    subst p;have bh:Hid (sl=(cI xs u q).2):=by show _=_;rw[←s.out];simp[cI]
    go_wp2;go_ret;have ck:=au.out;subst ck;rw[←bh.out];exact⟨q5,lc,rfl,HM.ow 1,HM.ext⟩
theorem aQr (aA aB:Int)(p:OA)(n cap:Nat)(xs:List Int)(lq:OA)(m lc u:Nat)(w:World)(hS:Sl w p n cap 1 (ivs xs))(d:aO aA aB xs=true)(hu:u<n)(f:xs.getD u 0=0)
  (hL:Sl w lq m lc 1 (ivs (bG (dH aA n 12 u)))):
  U 191 #[aH aA aB p n cap,.slice lq m lc] w (iK (cI xs u (dH aA n 12 u).tail).2 w):=by
 have hl:=hS.ilen;subst hl;have hg:=kI d;obtain⟨g1,g2,g3,g4,g5,g6,g7⟩:=cE (cQ d);obtain⟨k1,k2,k3⟩:=kQ hg hu;have hm:=hL.ilen;rw[aSg]at hm;obtain⟨pb,po,rfl,i,l⟩:=hS.rd (by omega);obtain⟨b,g,rfl,hb,hc⟩:=hL.rd (by omega);have a: ∀(k x:Nat),(dH aA xs.length 12 u)[k]? =some x→w.cell? ⟨b,g+k,none⟩=some (I x):=by intro k x hx;have hk:=(aRt.1 hx).1;rw[hc k (by omega)];simp[ivs,bG,hx]
 have c:=wH aA xs.length 12 u;have o:w.cell? ⟨b,g,none⟩=some (I u):=a 0 u (by rw[c];rfl);have h:w.cell? ⟨pb,po+u,none⟩=some (I 0):=by rw[l u (by omega)];rw[aRw,aRq hu]at f;simp only[Option.getD_some]at f;simp[ivs,hu,f]
 have HV: ∀w',Ext w w'→U 72 #[aH aA aB (some ⟨pb,po,none⟩) xs.length cap] w' (O (.bool true) w'):=fun w' hy=>by have:=fY aA aB _ xs.length cap xs w' (hS.ext hy);rwa[d]at this
 have HH: ∀w',U 159 #[aH aA aB (some ⟨pb,po,none⟩) xs.length cap,u] w' (O (.bool true) w'):=fun w'=>by have:=jH aA aB (u:Int) (some ⟨pb,po,none⟩) xs.length cap w' (by omega);rwa[decide_eq_true (⟨by omega,by omega⟩:0≤(u:Int)∧(u:Int)<xs.length)]at this
 refine aNe aA aB pb po xs.length cap xs b g m lc u (dH aA xs.length 12 u).tail (dH aA xs.length 12 u) w g5 g6 (by omega) (by omega) c hm hb i d rfl hu f (tH hg 12 u hu) a o h HV HH ?_
  (fun w' hy=>mC aA aB _ xs.length cap xs w' (by omega) (hS.ext hy))
 intro k x y hk hx hy w' hw;obtain⟨k,rfl⟩: ∃j,k=j+1:=⟨k-1,by omega⟩
 rw[aU4]at hx;have h2:=uM hg 12 u k x y hu hx hy;have q:=aI3 hg 12 u x hu (aRs hx);have h3:=bU.1 h2.2;have:=aQw aA aB x y _ xs.length cap xs w' (hS.ext hw) d q h3.1;rwa[h3.2]at this
def eR (aA aB:Int)(xs:List Int)(l:List Sl2):List Int:=l.foldl (fun ys s=>bI aA aB ys s.1 s.2) xs
theorem aF5 (aA aB:Int)(xs:List Int)(l:List Sl2)(s:Sl2):eR aA aB xs (l++ [s])=bI aA aB (eR aA aB xs l) s.1 s.2:=by simp[eR]
theorem aAq {aA aB:Int}: ∀(l:List Sl2) (xs:List Int),aO aA aB xs=true→aO aA aB (eR aA aB xs l)=true∧(eR aA aB xs l).length=xs.length:=by
 intro l;induction l with
 |nil=>intro xs h;exact⟨h,rfl⟩
 |cons s l ih=>intro xs h;have:=ih (bI aA aB xs s.1 s.2) (iW _ _ h);exact⟨this.1,by rw[show eR aA aB xs (s::l)=eR aA aB (bI aA aB xs s.1 s.2) l from rfl,this.2,dB]⟩
theorem aEr (aA aB:Int)(p:OA)(n cap:Nat)(xs:List Int)(lq:OA)(m lc:Nat)(l:List Sl2)(w:World)(ab:Hid (l.length=m))(g:Hid (xs.length=n))(u:Hid (aO aA aB xs=true))(j:Hid (Sl w lq m lc 2 (l.flatMap aM)))
  (HK:xC 86 #[aH aA aB p n cap] w fun w' e w''=> ∃q c,e= .returned (aH aA aB q n c)∧w''.ownsRow w' TI 1 (.slice q n c) n (ivs xs)∧Ext w' w''):
  U 153 #[aH aA aB p n cap,.slice lq m lc] w (eC aA aB (eR aA aB xs l) w):=by
 have al:=j.out.bd;go_enter func153,ntmps153;go_wp2_with fail;refine(HK _ (((Mem.start w).c0 TH3 #[aA,aB,.slice p n cap]).c1 TH3 #[(),(),((),())]).ext).mono ?_;rintro e w1 ⟨q0,c0,rfl,r,x⟩;have M1:=((((Mem.start w).c0 TH3 #[aA,aB,.slice p n cap]).c1 TH3 #[(),(),((),())]).call x r)
 clear x r;have M2:=(show Mem w _ [aI w TI 1 (q0) (n) (c0) (ivs (xs)),aJ w w1 TH3 #[aA,aB,.slice q0 n c0],aJ w (w.heap.size+1) TH3 #[(),(),((),())],aJ w w TH3 #[aA,aB,.slice p n cap]]from(M1.c0 TH3 #[aA,aB,.slice q0 n c0]).pick [1,0,2,3] (by decide) rfl)
 clear M1;obtain⟨gV,h⟩: ∃gV,gV=w1.heap.size:=⟨_,rfl⟩
 rw[←h]at M2;go_wp2;rw[←h];clear h;go_loopw [12] (fun i wr=> ∃(k:Nat) (q:OA) (c:Nat),k≤m∧i=I k∧Mem w wr [aI w TI 1 (q) (n) (c) (ivs (eR aA aB xs (l.take k))),aJ w (gV) TH3 #[aA,aB,.slice q n c],aJ w (w.heap.size+1) TH3 #[(),(),((),())],aJ w w TH3 #[aA,aB,.slice p n cap]]) (fun i _=>m-(intOf i).toNat)
 case atStart=>exact⟨0,q0,c0,aRv _,rfl,M2⟩
 case round=>
  clear M2;obtain⟨k,q,c,hk,rfl,hM⟩:=hrel;have HM:=hM;clear hM;by_cases hlt:k<m
  ·obtain⟨b,am,f,t,ad,hx,hb,z,aa⟩:=aDj (j.out.ext HM.ext) hlt;subst ad;have i1:(0:Int)≤(k:Int):=by omega
   have i2:(k:Int)<(m:Int):=by omega
   have ae:Hid (eR aA aB xs (l.take (k+1))=bI aA aB (eR aA aB xs (l.take k)) f t):=by show _=_;rw[aY hx,aF5]
   clear hx;obtain⟨d1,d2⟩:=aAq (l.take k) xs u.out;have HD:xC 82 #[aH aA aB q n c,eI f t] wr fun w' e w''=> ∃q' c',e= .returned (.tuple #[aH aA aB q' n c',.bool (bF aA aB (eR aA aB xs (l.take k)) f t)])∧w''.ownsRow w' TI 1 (.slice q' n c') n (ivs (eR aA aB xs (l.take (k+1))))∧Ext w' w'':=fun w' hx=>by
    refine(aAc aA aB f t q n c _ w' ((HM.sq 0).ext hx) d1).mono ?_;rintro e w'' ⟨q',c',h1,h2,h3⟩;have hl:(bI aA aB (eR aA aB xs (l.take k)) f t).length=n:=by rw[dB,d2,g.out]
    rw[hl]at h1 h2;exact⟨q',c',h1,by rw[ae.out];exact h2,h3⟩
   clear d1 d2;have d:gV<wr:=(HM.hi 1)
   obtain⟨v0,v1,v2⟩:=(HM.bk 1).tri;go_wp2_with fail;clear v0 v1 v2 z aa;refine(HD _ ((Ext.refl _).alloc _)).mono ?_;rintro e w6 ⟨q6,c6,rfl,s,y⟩;have M6:=((HM.c0 TSL #[f,t]).call y s)
   clear HM d y s;obtain⟨v0,af,v1,ag,v2,ah⟩:=(M6.bk 3).trif;go_wp2;have M7:=((M6.st 3 0 (I aA)).st 3 1 (I aB))
   have M8:=(M7.st 3 2 (.slice q6 n c6))
   have M9:=(show Mem w (((w6.setCell ⟨gV,0,none⟩ (I aA)).setCell ⟨gV,1,none⟩ (I aB)).setCell ⟨gV,2,none⟩ (.slice q6 n c6)) [aI w TI 1 (q6) (n) (c6) (ivs (eR aA aB xs (l.take (k+1)))),aJ w wr TSL #[f,t],aI w TI 1 (q) (n) (c) (ivs (eR aA aB xs (l.take k))),aJ w (gV) TH3 #[aA,aB,.slice q6 n c6],aJ w (w.heap.size+1) TH3 #[(),(),((),())],aJ w w TH3 #[aA,aB,.slice p n cap]]from M8)
   generalize a:World.setCell _ _ _=wz;rw[a]at M9;clear a M6 M7 M8 v0 af v1 ag v2 ah;go_roundw
   case rel=>exact⟨k+1,q6,c6,by omega,by go_num,(M9.pick [0,3,4,5] (by decide) rfl)⟩
   case measure=>simp[intOf];omega
  obtain rfl:m=k:=by omega
  have o:Hid (eR aA aB xs (l.take m)=eR aA aB xs l):=by show _=_;rw[←ab.out,aTf]
  rw[o.out]at HM;have d:gV<wr:=(HM.hi 1)
  obtain⟨v0,v1,v2⟩:=(HM.bk 1).tri;obtain⟨z0,ai,z1,aj,z2,ak⟩:=(HM.bk 2).trif;go_wp2;have M6:=((HM.st 2 0 (I aA)).st 2 1 (I aB))
  have M7:=(M6.st 2 2 (.slice q n c))
  have M8:=(show Mem w (((wr.setCell ⟨w.heap.size+1,0,none⟩ (I aA)).setCell ⟨w.heap.size+1,1,none⟩ (I aB)).setCell ⟨w.heap.size+1,2,none⟩ (.slice q n c)) [aI w TI 1 (q) (n) (c) (ivs (eR aA aB xs l)),aJ w (gV) TH3 #[aA,aB,.slice q n c],aJ w (w.heap.size+1) TH3 #[aA,aB,.slice q n c],aJ w w TH3 #[aA,aB,.slice p n cap]]from M7)
  generalize a:World.setCell _ _ _=wz;rw[a]at M8;clear a HM M6 M7 v0 v1 v2 z0 ai z1 aj z2 ak;obtain⟨y0,y1,y2⟩:=(M8.bk 2).tri;exact bodyPost_ret (v:=aH aA aB q n c) (by simp[results,results153,go_sem, *]) rfl (wT (by exact(aAq l xs u.out).2.trans g.out) (M8.ow 0) M8.ext)
theorem aAe (aA aB:Int)(p:OA)(n cap:Nat)(xs:List Int)(lq:OA)(m lc:Nat)(l:List Sl2)(w:World)(b:l.length=m)(hS:Sl w p n cap 1 (ivs xs))(a:aO aA aB xs=true)(hL:Sl w lq m lc 2 (l.flatMap aM)):
  U 153 #[aH aA aB p n cap,.slice lq m lc] w (eC aA aB (eR aA aB xs l) w):=by
 have hl:=hS.ilen;subst hl;obtain⟨g1,g2,g3,g4,g5,g6,g7,g8,g9⟩:=bN a;exact aEr aA aB p xs.length cap xs lq m lc l w b rfl a hL (fun w' hx=>mC aA aB p xs.length cap xs w' (by omega) (hS.ext hx))
theorem aNj (aA aB:Int)(p:OA)(n cap F:Nat)(fr:List Nat)(xs:List Int)(w:World)(hg:Hid ((aA,n)∈jI))(hF:Hid (fr.length=F))(ag:F≤12)(j:Hid (∀x∈fr,x<n))
  (HF:xC 189 #[aH aA aB p n cap] w fun w' e w''=> ∃q c,e= .returned (.slice q F c)∧w''.ownsRow w' TI 1 (.slice q F c) F (ivs (bG fr))∧Ext w' w'')
  (m:Hid (∀(u:Nat),u<n→ ∀w',Ext w w'→U 190 #[aH aA aB p n cap,u,(),(-1:Int)] w' (bA (bG (dH aA n 12 u)) w')))
  (ab:Hid (∀(u:Nat),dI aA fr=some u→ ∀w' q W c,Ext w w'→Sl w' q W c 1 (ivs (bG (dH aA n 12 u)))→U 191 #[aH aA aB p n cap,.slice q W c] w' (iK (cI xs u (dH aA n 12 u).tail).2 w'))):
  U 151 #[aH aA aB p n cap] w (pX ((dI aA fr).map fun u=>cI xs u (dH aA n 12 u).tail) w):=by
 have aj: ∀(w:World) (a:OA) (n c n' c':Nat),(binOp .eql 22 (.slice a n c) (.slice none n' c')).run prog w= .ok (.bool a.isNone) w:=fun w a n c n' c'=>Lib.run_eql_slice_nil w _ _ a n c n' c' underlying22
 go_enter func151,ntmps151;go_wp2_with fail;refine(HF _ ((Mem.start w).c0 TH3 #[aA,aB,.slice p n cap]).ext).mono ?_;rintro e w1 ⟨q1,c1,rfl,t,z⟩;have M1:=(((Mem.start w).c0 TH3 #[aA,aB,.slice p n cap]).call z t)
 clear z t;have M2:=(show Mem w w1 [aI w TI 1 (none) (0) (0) (ivs (bG (lR aA n (dI aA (fr.take 0))))),aI w TI 1 (q1) (F) (c1) (ivs (bG fr)),aJ w w TH3 #[aA,aB,.slice p n cap]]from(M1.ownNew (Ext.refl _) (aS4 _ _ TI 1) (aRp _)))
 clear M1;go_wp2;go_loopw [4,11] (fun v i wr=> ∃(k:Nat) (qb:OA) (l lb:Nat),k≤F∧i=I k∧v= .slice qb l lb∧l=(lR aA n (dI aA (fr.take k))).length∧qb.isNone=decide (l=0)∧Mem w wr [aI w TI 1 (qb) (l) (lb) (ivs (bG (lR aA n (dI aA (fr.take k))))),aI w TI 1 (q1) (F) (c1) (ivs (bG fr)),aJ w w TH3 #[aA,aB,.slice p n cap]]) (fun _ i _=>F-(intOf i).toNat)
 case atStart=>exact⟨0,none,0,0,aRv _,rfl,rfl,rfl,rfl,M2⟩
 case round=>
  clear M2;obtain⟨k,qb,l,lb,hk,rfl,rfl,hl,y,hM⟩:=hrel;have HM:=hM;have b:=xQ hl;have HQ:=xQ y;clear hM hl y;by_cases hlt:k<F
  ·obtain⟨u,hu⟩: ∃u,fr[k]? =some u:=⟨_,aRq (by rw[hF.out];exact hlt)⟩
   have d:u<n:=j.out u (aRs hu);obtain⟨gf,rfl,ah,ai⟩:=HM.so 1;have cu:wr.cell? ⟨gf,k,none⟩=some (I u):=by have:=(HM.ow 1).cellAt k (by omega);rw[this];simp[ivs,bG,hu]
   obtain⟨f,g⟩:=aA6 hg.out (l:=fr.take k) (fun x hx=>j.out x (aTi hx)) d;rw[←aY hu,←b.out]at f g;obtain⟨k1,k2,k3⟩:=kQ hg.out d;obtain⟨W,hW⟩: ∃W,W=(dH aA n 12 u).length:=⟨_,rfl⟩
   rw[←hW]at k1 k2 f g;have o:=xQ f;have ad:=xQ g;have h:=xQ hW;have HC:=xQ (fun w' (hx:Ext w w')=>m u d w' hx);clear hu f g hW k3;have i1:(0:Int)≤(k:Int):=by omega
   have i2:(k:Int)<(F:Int):=by omega
   obtain⟨b0,b1,b2⟩:=(HM.bk 2).tri;go_wp2_with fail;clear b0 b1 b2 cu;refine(HC _ HM.ext).mono ?_;rintro e w5 ⟨q7,c7,rfl,o7,aa⟩;have ae:(bG (dH aA n 12 u)).length=W:=by rw[h.out];simp[bG]
   rw[ae]at o7⊢;have M5:=(HM.call aa o7)
   clear o7 aa HM HC;obtain⟨g7,rfl,r,s⟩:=M5.some (i:=0) rfl k1;clear r s;by_cases h0:l=0
   ·have hn:=xQ (o (.inl h0));have hq:qb.isNone=true:=by rw[HQ.out,h0];rfl
    clear h0;go_wp2;go_roundw
    case rel=>exact⟨k+1,some ⟨g7,0,none⟩,W,c7,by omega,by go_num,rfl,by rw[hn.out];exact h.out,by simp;omega,by rw[hn.out];exact M5.pick [0,2,3] (by decide) rfl⟩
    case measure=>simp[intOf];omega
   have hq:qb.isNone=false:=by rw[HQ.out];simp[h0]
   by_cases h1:W<l
   ·have hn:=xQ (o (.inr h1));have t2:(W:Int)<(l:Int):=by omega
    clear h0;go_wp2;go_roundw
    case rel=>exact⟨k+1,some ⟨g7,0,none⟩,W,c7,by omega,by go_num,rfl,by rw[hn.out];exact h.out,by simp;omega,by rw[hn.out];exact M5.pick [0,2,3] (by decide) rfl⟩
    case measure=>simp[intOf];omega
   have hn:=xQ (ad (by omega));have t2: ¬((W:Int)<(l:Int)):=by omega
   clear h0;go_wp2;go_roundw
   case rel=>exact⟨k+1,qb,l,lb,by omega,by go_num,rfl,by rw[hn.out];exact b.out,HQ.out,by rw[hn.out];exact M5.pick [1,2,3] (by decide) rfl⟩
   case measure=>simp[intOf];omega
  obtain rfl:F=k:=by omega
  rw[show fr.take F=fr by rw[←hF.out];exact aTf]at HM b;obtain⟨b0,b1,b2⟩:=(HM.bk 2).tri;cases hne:dI aA fr with
  |none=>
   have hq:qb.isNone=true:=by rw[HQ.out,b.out,hne];rfl
   have hE:=xQ HM.ext;clear HM b;go_wp2;exact bodyPost_ret (v:= .tuple #[((),()),.bool false]) (by simp[results,results151,go_sem, *]) rfl (by rw[hne];exact⟨_,rfl,by have:=hE.out;exact xE⟩)
  |some u=>
   have d:u<n:=j.out u ((kT aA fr).2 u hne);obtain⟨k1,k2,k3⟩:=kQ hg.out d;rw[hne]at HM b;have hq:qb.isNone=false:=by rw[HQ.out,b.out];exact decide_eq_false (by show¬(dH aA n 12 u).length=0;omega)
   have HH:=xQ (ab u hne);clear k1 k2 k3;go_wp2_with fail;clear b0 b1 b2;refine(HH _ qb l lb HM.ext (HM.sq 0)).mono ?_;rintro e w9 ⟨q9,c9,rfl,o9,af⟩;have HX:=xQ HM.ext;clear HM;go_wp2;exact bodyPost_ret (v:= .tuple #[.slice q9 (cI xs u (dH aA n 12 u).tail).2.length c9,.bool true]) (by simp[results,results151,go_sem, *]) rfl (by rw[hne];exact⟨q9,c9,rfl,bJ o9 HX.out.sz,HX.out.trans af⟩)
theorem aQv (aA aB:Int)(p:OA)(n cap:Nat)(xs:List Int)(w:World)(hS:Sl w p n cap 1 (ivs xs))(a:aO aA aB xs=true):
  U 151 #[aH aA aB p n cap] w (pX (iJ aA xs) w):=by
 have hl:=hS.ilen;subst hl;have hg:=kI a;obtain⟨g1,g2,g3,g4,g5,g6,g7,g8,g9⟩:=bN a;have d:(bP xs).length≤xs.length:=by unfold bP;exact aRz (aSt _ _) (by simp)
 refine aNj aA aB p xs.length cap (bP xs).length (bP xs) xs w hg rfl (by omega) (fun x hx=>(kK hx).1) (fun w' hx=> ?_) (fun u hu w' hx=>aQn aA aB p xs.length cap u xs w' (hS.ext hx) a hu) (fun u hne w' q W c hx hL=> ?_)
 ·have:=aQt aA aB p xs.length cap xs w' (hS.ext hx);rw[if_pos a,yE]at this;refine this.mono fun e w'' h1=> ?_
  obtain⟨q,c,h2,h3,h4⟩:=h1;rw[aSg]at h2 h3;exact⟨q,c,h2,h3,h4⟩
 obtain⟨hu,b⟩:=kK ((kT aA _).2 u hne);exact aQr aA aB p xs.length cap xs q W c u w' (hS.ext hx) a hu b hL
end Go.Proofs.YtbgkcehffiogcacGreatDoor
