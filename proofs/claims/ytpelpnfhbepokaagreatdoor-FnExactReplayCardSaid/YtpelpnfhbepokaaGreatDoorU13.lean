/-
  Texts of this proof, packed (@packed).
-/
import Derived.Test.YtpelpnfhbepokaaGreatDoorU11
import Derived.Test.YtpelpnfhbepokaaGreatDoorU12
namespace Go.Proofs.YtpelpnfhbepokaaGreatDoor
open Go.RowKit
set_option linter.unusedVariables false
set_option linter.unusedSimpArgs false
set_option maxHeartbeats 8000000
set_option maxRecDepth 100000
theorem mL (a b:Int): ∀u∈aK (a,b),u.oneCell'=true:=by intro u hu;simp[aK]at hu;rcases hu with rfl|rfl<;>rfl
theorem aIx (aA aB:Int)(pb po:Nat)(n cap:Nat)(xs:List Int)(b d m c2 u:Nat)(s ws:List Nat)(w:World)(cd:4≤n)(hn:n≤12)(cc:0<m)(hm:m≤12)(bj:Hid (ws=u::s))(bc:Hid (ws.length=m))(hb:b<w.heap.size)(bu:pb<w.heap.size)
  (bt:Hid (aN aA aB xs=true))(a9:Hid (xs.length=n))(hu:u<n)(bw:Hid (xs.getD u 0=0))(bv:Hid (mI aA n u s))
  (HS:Hid (∀(k x:Nat),ws[k]? =some x→w.cell? ⟨b,d+k,none⟩=some (.int .i64 (x:Int)))) (bo:w.cell? ⟨b,d,none⟩=some (.int .i64 (u:Int))) (bm:w.cell? ⟨pb,po+u,none⟩=some (.int .i64 0))
  (HW:xB 205 #[aH aA aB (some ⟨pb,po,none⟩) n cap,.slice (some ⟨b,d,none⟩) m c2] w true)
  (HL:xC 81 #[aH aA aB (some ⟨pb,po,none⟩) n cap] w fun w' e w''=> ∃q c,e= .returned (aH aA aB q n c)∧w''.ownsRow w'.heap.size TI 1 (.slice q n c) n (ivs xs)∧Ext w' w''):
  Calls Tryz.prog 179 #[aH aA aB (some ⟨pb,po,none⟩) n cap,.slice (some ⟨b,d,none⟩) m c2] w (gO (bY xs u s).2 w):=by
 have j1:(0:Int)≤(u:Int):=by omega
 have j2:(u:Int)<(n:Int):=by omega
 have j3:(0:Int)<(m:Int):=by omega
 go_enter Tryz.func179,Tryz.ntmps179;go_wp2;have ME:=(((Mem.start w).c0 TH3 #[aA,aB,.slice (some ⟨pb,po,none⟩) n cap]).made0 TSL 2 (w.heap.size+1) (by simp))
 have X0:=xQ (show Ext w ((w.alloc (.cells #[aA,aB,.slice (some ⟨pb,po,none⟩) n cap] TH3)).alloc (.cells #[] TSL))from ME.ext);refine rL (gl [gEq (.agg #[aA,aB,.slice (some ⟨pb,po,none⟩) n cap]),gEq (.slice (some ⟨b,d,none⟩) m c2),gEq (.bool true),gEq (.bool false),gEq (.bool false),gEq (.pointer (some ⟨w.heap.size,2,none⟩)),gEq (.slice (some ⟨pb,po,none⟩) n cap),gEq (.slice (some ⟨b,d,none⟩) m c2),gEq (.pointer (some ⟨b,d,none⟩)),gEq (u:Int),gEq (.pointer (some ⟨pb,po+u,none⟩)),gEq (.int .i64 0),gEq (.bool false),gEq (.bool false)]) 14 14 [(0,some 12),(1,some 13),(2,some 14),(3,some 15),(4,some 16),(5,some 17),(6,some 18),(7,some 19),(8,some 20),(9,some 21),(10,some 22),(11,some 23),(12,some 24),(13,some 25)] ?steps ?fin
 case steps=>
  refine sC [] rfl (fun wi hx=> ?_) ?_
  ·intro K hK;have hX:Ext ((w.alloc (.cells #[aA,aB,.slice (some ⟨pb,po,none⟩) n cap] TH3)).alloc (.cells #[] TSL)) wi:=by exact .trans (.drew (.refl _)) hx
   obtain⟨ab,b6,b7⟩:=((ME.bk 1).ext hX).tri;go_simp;exact hK _ _ ⟨.agg #[aA,aB,.slice (some ⟨pb,po,none⟩) n cap],rfl,rfl,Ext.refl _⟩
  refine sS0 [] ?_;refine sC [(0,some 12),(1,some 13)] rfl (fun wi hx=> ?_) ?_
  ·intro v0 h0 v1 h1 K hK;obtain rfl:=h0;obtain rfl:=h1;have hX:Ext w wi:=by exact .trans (.drew (.alloc (.alloc (.refl _) _) _)) hx
   go_wp2_with fail;refine(HW _ hX).mono ?_;rintro e w5 ⟨rfl,ah⟩;go_simp;exact hK _ _ ⟨.bool true,rfl,rfl,ah⟩
  refine sS1 [(2,some 14)] (sS1 [(3,some 15)] (sS1 [(4,some 16)] ?_));refine sC [(4,some 16),(5,some 17)] rfl (fun wi hx=> ?_) ?_
  ·intro v4 h4 v5 h5 K hK;obtain rfl:=h4;obtain rfl:=h5;have hX:Ext ((w.alloc (.cells #[aA,aB,.slice (some ⟨pb,po,none⟩) n cap] TH3)).alloc (.cells #[] TSL)) wi:=by exact .trans (.drew (.refl _)) hx
   have ab:=((ME.bk 1).ext hX).cl 2;go_simp;exact hK _ _ ⟨.slice (some ⟨pb,po,none⟩) n cap,rfl,rfl,Ext.refl _⟩
  refine sS1 [(4,some 16)] (sS2 [(4,some 16),(7,some 19)] ?_);refine sC [(4,some 16),(8,some 20)] rfl (fun wi hx=> ?_) ?_
  ·intro v4 h4 v8 h8 K hK;obtain rfl:=h4;obtain rfl:=h8;have hX:Ext ((w.alloc (.cells #[aA,aB,.slice (some ⟨pb,po,none⟩) n cap] TH3)).alloc (.cells #[] TSL)) wi:=by exact .trans (.drew (.refl _)) hx
   have ab:wi.cell? ⟨b,d,none⟩=some (.int .i64 (u:Int)):=(X0.out.trans hX).cells.1 _ _ hb |>.trans bo;go_simp;exact hK _ _ ⟨.int .i64 (u:Int),rfl,rfl,Ext.refl _⟩
  refine sS3 [(4,some 16),(6,some 18),(9,some 21)] ?_;refine sC [(4,some 16),(10,some 22)] rfl (fun wi hx=> ?_) ?_
  ·intro v4 h4 bi ad K hK;obtain rfl:=h4;obtain rfl:=ad;have hX:Ext ((w.alloc (.cells #[aA,aB,.slice (some ⟨pb,po,none⟩) n cap] TH3)).alloc (.cells #[] TSL)) wi:=by exact .trans (.drew (.refl _)) hx
   have ab:wi.cell? ⟨pb,po+u,none⟩=some (.int .i64 0):=(X0.out.trans hX).cells.1 _ _ bu |>.trans bm;go_simp;exact hK _ _ ⟨.int .i64 0,rfl,rfl,Ext.refl _⟩
  exact sS2 [(4,some 16),(11,some 23)] (sS2 [(4,some 16),(12,some 24)] StepsL.nil)
 case fin=>
  intro wi hx v0 h0 v1 h1 v2 h2 v3 h3 v4 h4 v5 h5 v6 h6 v7 h7 v8 h8 v9 h9 bi ad cf bp cg bq ch br;obtain rfl:=h0;obtain rfl:=h1;obtain rfl:=h2;obtain rfl:=h3;obtain rfl:=h4;obtain rfl:=h5;obtain rfl:=h6;obtain rfl:=h7;obtain rfl:=h8;obtain rfl:=h9;obtain rfl:=ad;obtain rfl:=bp;obtain rfl:=bq;obtain rfl:=br;refine wpAny_done (by kernel_rfl) ?_ _;try go_frame
  have hX:Ext ((w.alloc (.cells #[aA,aB,.slice (some ⟨pb,po,none⟩) n cap] TH3)).alloc (.cells #[] TSL)) wi:=hx.of_drew;have M1:=(ME.adv hX)
  clear ME X0 hx hX;have p:=M1.hi 1;obtain⟨c0,c1,c2⟩:=(M1.bk 1).tri;go_wp2_with fail;clear c0 c1 c2;refine(HL _ M1.ext).mono ?_;rintro e w2 ⟨q0,c0,rfl,bb,be⟩;have M2:=(M1.call be bb)
  clear M1 p be bb HW;have a0:=M2.hi 2;have a4:=xQ (M2.c0 TH3 #[aA,aB,.slice q0 n c0]);go_wp2;go_loopw [5,7] (fun v i wr=> ∃(k x:Nat) (rest:List Nat) (ys:List Int) (q:OA) (c:Nat) (q5:OA) (l lc:Nat) (sl:List Sl2),1≤k∧k≤m∧i= .int .i64 k∧v= .slice q5 l lc∧l=sl.length∧l≤k∧ws.drop (k-1)=x::rest∧aN aA aB ys=true∧ys.length=n∧x<n∧ys.getD x 0=0∧mI aA n x rest∧sl++(bY ys x rest).2=(bY xs u s).2∧Mem w wr [aJ w.heap.size (w2.heap.size) TH3 #[aA,aB,.slice q n c],aI w.heap.size TI 1 (q) (n) (c) (ivs ys),aI w.heap.size TSL 2 (q5) (l) (lc) (sl.flatMap aK),aJ w.heap.size (w.heap.size) TH3 #[aA,aB,.slice (some ⟨pb,po,none⟩) n cap]]) (fun _ i _=>m-(intOf i).toNat)
  case atStart=>exact⟨1,u,s,xs,q0,c0,some ⟨w.heap.size+1,0,none⟩,0,0,[],Nat.le_refl _,by omega,rfl,rfl,rfl,by omega,by rw[bj.out];rfl,bt.out,a9.out,hu,bw.out,bv.out,rfl,a4.out⟩
  case round=>
   clear a4 M2 a0;obtain⟨k,x,rest,ys,q,c,q5,l,lc,sl,b8,hk,rfl,rfl,hl,b9,a5,al,ba,av,bd,an,am,hM⟩:=hrel;have af:=xQ a5;have j:=xQ al;have f:=xQ ba;have aq:=xQ bd;have aa:=xQ an;have t:=xQ am;have ap:=xQ hl;have HM:=hM;clear a5 al ba bd an am hM hl;by_cases hlt:k<m
   ·obtain⟨y,rest',o⟩: ∃y rest',rest=y::rest':=by
     have h1:=congrArg List.length af.out;rw[List.length_drop,bc.out]at h1;cases rest with
     |nil=>simp at h1;omega
     |cons y r=>exact⟨y,r,rfl⟩
    subst o;have bg:ws[k-1]? =some x:=by have:=congrArg (fun z=>z[0]?) af.out;simpa using this
    have ae:ws.drop k=y::rest':=by have:=congrArg List.tail af.out;rw[List.tail_drop,show k-1+1=k by omega]at this;exact this
    have bh:ws[k]? =some y:=by have:=congrArg (fun z=>z[0]?) ae;simpa using this
    have aj:=xQ ae;have ar:y∈aP aA n x:=aa.out.1;have bf:y<n:=(bM.1 ar).1;have ao:=xQ ar;have ai:=HM.ext;have ca:wr.cell? ⟨b,d+(k-1),none⟩=some (.int .i64 (x:Int)):=(ai.cells.1 _ _ hb).trans (HS (k-1) x bg);have cb:wr.cell? ⟨b,d+k,none⟩=some (.int .i64 (y:Int)):=(ai.cells.1 _ _ hb).trans (HS k y bh);have a3:b<wr.heap.size:=Nat.lt_of_lt_of_le hb ai.sz;clear ae ar bg bh ai;have i1:(0:Int)≤(k:Int):=by omega
    have i2:(k:Int)<(m:Int):=by omega
    have i3:(k:Int)-1<(m:Int):=by omega
    have i4:((k:Int)-1).toNat=k-1:=by omega
    have i5:(1:Int)≤(k:Int):=by omega
    go_wp2;refine rL (gl [gEq (.slice (some ⟨b,d,none⟩) m c2),gEq (k:Int),gEq (.pointer (some ⟨b,d+k,none⟩)),gEq (y:Int),gEq (.slice (some ⟨b,d,none⟩) m c2),gEq (k:Int),gEq ((k:Int)-1:Int),gEq (.pointer (some ⟨b,d+(k-1),none⟩)),gEq (x:Int),gEq (.agg #[(y:Int),(x:Int)]),aNc (wr.heap.size) TSL #[(),()]]) 11 12 [(0,some 35),(1,some 36),(2,some 37),(3,some 38),(4,some 39),(5,some 40),(6,some 41),(7,some 42),(8,some 43),(9,some 44),(10,some 8)] ?steps ?fin
    case steps=>
     refine sS0 [] (sS0 [] (sS2 [(0,some 35),(1,some 36)] ?_));refine sC [(2,some 37)] rfl (fun wi hx=> ?_) ?_
     ·intro v2 h2 K hK;obtain rfl:=h2;have hX:=hx.of_drew;have ab:wi.cell? ⟨b,d+k,none⟩=some (.int .i64 (y:Int)):=(hX.cells.1 _ _ a3).trans cb;go_simp;exact hK _ _ ⟨.int .i64 (y:Int),rfl,rfl,Ext.refl _⟩
     refine sS0 [] (sS0 [] ?_);refine sC [(5,some 40)] rfl (fun wi hx=> ?_) ?_
     ·intro v5 h5 K hK;obtain rfl:=h5;have ce:IntKind.i64.wrap ((k:Int)-1)=(k:Int)-1:=IntWalk.i64_in _ (by omega);go_simp;exact hK _ _ ⟨.int .i64 ((k:Int)-1),rfl,rfl,Ext.refl _⟩
     refine sS2 [(4,some 39),(6,some 41)] ?_;refine sC [(7,some 42)] rfl (fun wi hx=> ?_) ?_
     ·intro v7 h7 K hK;obtain rfl:=h7;have hX:=hx.of_drew;have ab:wi.cell? ⟨b,d+(k-1),none⟩=some (.int .i64 (x:Int)):=(hX.cells.1 _ _ a3).trans ca;go_simp;exact hK _ _ ⟨.int .i64 (x:Int),rfl,rfl,Ext.refl _⟩
     refine sS2 [(3,some 38),(8,some 43)] ?_;refine sC [] rfl (fun wi hx=> ?_) StepsL.nil
     ·intro K hK;go_simp;exact hK _ _ ⟨.pointer (some ⟨wi.heap.size,0,none⟩),rfl,⟨wi.heap.size,rfl,by have:=hx.sz;simp at this;omega,Blk.new _ _ _⟩,(Ext.refl _).alloc _⟩
    case fin=>
     intro wi hx v0 h0 v1 h1 v2 h2 v3 h3 v4 h4 v5 h5 v6 h6 v7 h7 v8 h8 v9 h9 bi ad;obtain rfl:=h0;obtain rfl:=h1;obtain rfl:=h2;obtain rfl:=h3;obtain rfl:=h4;obtain rfl:=h5;obtain rfl:=h6;obtain rfl:=h7;obtain rfl:=h8;obtain rfl:=h9;obtain⟨ag,rfl,ak,a2⟩:=ad;have hX:Ext wr wi:=hx.of_drew;have M1:=(show Mem w wi [aJ w.heap.size (ag) TSL #[(),()],aJ w.heap.size (w2.heap.size) TH3 #[aA,aB,.slice q n c],aI w.heap.size TI 1 (q) (n) (c) (ivs ys),aI w.heap.size TSL 2 (q5) (l) (lc) (sl.flatMap aK),aJ w.heap.size (w.heap.size) TH3 #[aA,aB,.slice (some ⟨pb,po,none⟩) n cap]]from HM.blkOf hX a2 ak)
     clear HM hx hX ca cb a2 ak;have aw:=M1.hi 0;have p:=M1.hi 1;have ax:=M1.hi 4;try go_frame
     have z0:=(M1.bk 0).cl 0;have b4:=(M1.bk 0).frozen 0;have z1:=(M1.bk 0).cl 1;have b5:=(M1.bk 0).frozen 1;refine wpAny_ready (rs:= [11]) (by kernel_rfl) (by simp) ?_;refine AllReady.cons rfl (fun K hK=> ?_) AllReady.nil;go_simp;refine hK _ _ ?_;clear hK K z0 b4 z1 b5;have M2:=((M1.st 0 0 (.int .i64 (y:Int))).st 0 1 (.int .i64 (x:Int)))
     generalize ((wi.setCell ⟨ag,0,none⟩ (.int .i64 (y:Int))).setCell ⟨ag,1,none⟩ (.int .i64 (x:Int)))=w4 at M2⊢;clear M1 aw p ax;have ay:=M2.hi 0;have az:=M2.hi 1;have a1:=M2.hi 4;refine wpAny_done (by kernel_rfl) ?_ _;try go_frame
     obtain⟨g,h⟩:=M2.nq 0 1;obtain⟨n0,n1,n2⟩:=(M2.bk 1).tri;have s0:=(M2.bk 0).cl 0;have s1:=(M2.bk 0).cl 1;have HD:=xQ (fun w' (hx:Ext w4 w')=>lF aA aB (y:Int) (x:Int) q n c ys w' ((M2.sq 2).ext hx) j.out);go_wp2_with fail;refine(HD _ (by exact .refl _)).mono ?_;rintro e w5 ⟨q6,c6,rfl,au,ah⟩;have a8:(bC aA aB ys (y:Int) (x:Int)).length=n:=by rw[cS,f.out]
     rw[a8]at au⊢;clear a8 HD g h n0 n1 n2 s0 s1;have M3:=(M2.call ah au)
     clear M2 ay az a1 ah au;have bx:=M3.hi 1;have bz:=M3.hi 2;have b0:=M3.hi 5;by_cases hy0:ys.getD y 0=0
     ·have hm:aZ aA aB ys (y:Int) (x:Int)=false:=by have:=aKd j (by rw[f.out];exact av) aq (by rw[f.out];exact ao.out) hy0;exact this
      have hr:=xQ (pQ (a:=x) (l:=rest') hy0);have bl:=xQ hy0;clear hy0;rw[hm];clear hm;go_wp2;go_roundw
      case rel=>exact⟨k+1,y,rest',ys,q,c,q5,l,lc,sl,by omega,by omega,by go_num,rfl,ap.out,by omega,by rw[Nat.add_sub_cancel];exact aj.out,j.out,f.out,bf,bl.out,aa.out.2,by rw[←t.out,hr.out],((M3.c0 TH3 #[aA,aB,.slice q6 n c6]).pick [3,4,5,6] (by decide) rfl)⟩
      case measure=>simp[intOf];omega
     obtain⟨hm,hd⟩:=aAo j (by rw[f.out];exact av) aq (by rw[f.out];exact ao.out) hy0;obtain⟨n1,n2,n3⟩:=sG j (by rw[f.out];exact av) aq (by rw[f.out];exact ao.out) hy0;have hr:=xQ (nV (a:=x) (l:=rest') hy0);rw[hd]at M3;rw[hm];clear hm hd hy0;generalize (ys.set x (ys.getD y 0)).set y 0=zs at*;have N1:=xQ n1;have N2:=xQ n2;have N3:=xQ n3;clear n1 n2 n3;obtain⟨g,h⟩:=M3.nq 1 2;obtain⟨n0,b1,n1,b2,n2,b3⟩:=(M3.bk 2).trif;have s0:=(M3.bk 1).cl 0;have s1:=(M3.bk 1).cl 1;go_wp2_with (at_builtin;go_loud (refine cR qY rfl _ _ rfl (((((M3.store (i:=2) rfl 0 (.int .i64 aA)).store (i:=2) rfl 1 (.int .i64 aB)).store (i:=2) rfl 2 (.slice q6 n c6)).bn TH3 #[aA,aB,.slice q6 n c6] (w5.heap.size)).adv ((Ext.refl _).alloc (.cells #[(y:Int),(x:Int)] TSL))) 5 rfl rfl (aK ((y:Int),(x:Int))) rfl (eU _ _ _ 1 2 _ (by simp) (by simp) (by simp[maxLen])) (mL _ _) (by omega) ?_;intro q7 c7 w6 M6));clear g h n0 b1 n1 b2 n2 b3 s0 s1;have M7:=(show Mem w w6 [aJ w.heap.size (w5.heap.size) TH3 #[aA,aB,.slice q6 n c6],aI w.heap.size TI 1 (q6) (n) (c6) (ivs zs),aJ w.heap.size (ag) TSL #[(y:Int),(x:Int)],aJ w.heap.size (w2.heap.size) TH3 #[aA,aB,.slice q6 n c6],aI w.heap.size TI 1 (q) (n) (c) (ivs ys),aI w.heap.size TSL 2 (q7) (l+1) (c7) (sl.flatMap aK++aK ((y:Int),(x:Int))),aJ w.heap.size (w.heap.size) TH3 #[aA,aB,.slice (some ⟨pb,po,none⟩) n cap]]from M6)
     clear M6 M3;have a7:Hid (sl.flatMap aK++aK ((y:Int),(x:Int))=(sl++ [((y:Int),(x:Int))]).flatMap aK):=by show _=_;rw[List.flatMap_append];simp
     rw[a7.out]at M7;clear a7;go_wp2;go_roundw
     case rel=>exact⟨k+1,y,rest',zs,q6,c6,q7,l+1,c7,sl++ [((y:Int),(x:Int))],by omega,by omega,by go_num,rfl,by rw[List.length_append,←ap.out];rfl,by omega,by rw[Nat.add_sub_cancel];exact aj.out,N1.out,by rw[N2.out,f.out],bf,N3.out,aa.out.2,by rw[←t.out,hr.out];simp,(M7.pick [3,1,5,6] (by decide) rfl)⟩
     case measure=>simp[intOf];omega
   obtain rfl:m=k:=by omega
   have o:rest= []:=by
    have h1:=congrArg List.length af.out;rw[List.length_drop,bc.out]at h1;cases rest with
    |nil=>rfl
    |cons y r=>simp at h1;omega
   subst o;have a6:Hid (sl=(bY xs u s).2):=by show _=_;rw[←t.out];simp[bY]
   go_wp2;go_ret;have bs:=ap.out;subst bs;rw[←a6.out];exact⟨q5,lc,rfl,HM.ow 2,HM.ext⟩
theorem iT {aA:Int}{n:Nat}(hg:(aA,n)∈iD){u:Nat}(hu:u<n):0<(cY aA n 12 u).length∧(cY aA n 12 u).length≤6∧((cY aA n 12 u).length:Int)=aX aA u 0+1:=by have g:=bR hg hu;have h:=lX hg 12 u hu (by have:=g.2.1;omega);have:=g.1;have:=g.2.1;omega
theorem aAz {aA aB:Int}{xs:List Int}(a:aN aA aB xs=true){x y:Nat}(hx:x<xs.length)(hy:y∈aP aA xs.length x):dC aA aB xs (x:Int) (y:Int)=1:=by obtain⟨h1,h2⟩:=bM.1 hy;unfold dC;rw[if_pos ⟨a,⟨by omega,by omega⟩,by omega,by omega⟩];exact h2
theorem vK (aA aB:Int)(p:OA)(n cap:Nat)(xs:List Int)(lq:OA)(m lc u:Nat)(w:World)(hS:Sl w p n cap 1 (ivs xs))(d:aN aA aB xs=true)(hu:u<n)(g:xs.getD u 0=0)
  (hL:Sl w lq m lc 1 (ivs (bA (cY aA n 12 u)))):
  Calls Tryz.prog 179 #[aH aA aB p n cap,.slice lq m lc] w (gO (bY xs u (cY aA n 12 u).tail).2 w):=by
 have hl:=hS.ilen;subst hl;have hg:=jM d;obtain⟨g1,g2,g3,g4,g5,g6,g7⟩:=cG (cK d);obtain⟨k1,k2,k3⟩:=iT hg hu;have hm:=hL.ilen;rw[List.length_map]at hm;obtain⟨pb,po,rfl,l,o⟩:=hS.rd (by omega);obtain⟨b,f,rfl,hb,hc⟩:=hL.rd (by omega);have a: ∀(k x:Nat),(cY aA xs.length 12 u)[k]? =some x→w.cell? ⟨b,f+k,none⟩=some (.int .i64 (x:Int)):=by intro k x hx;have hk:=(List.getElem?_eq_some_iff.1 hx).1;rw[hc k (by omega)];simp[ivs,bA,hx]
 have c:=tY aA xs.length 12 u;have i:w.cell? ⟨b,f,none⟩=some (.int .i64 (u:Int)):=a 0 u (by rw[c];rfl);have j:w.cell? ⟨pb,po+u,none⟩=some (.int .i64 0):=by rw[o u (by omega)];rw[List.getD_eq_getElem?_getD,List.getElem?_eq_getElem hu]at g;simp only[Option.getD_some]at g;simp[ivs,hu,g]
 have HV: ∀w',Ext w w'→Calls Tryz.prog 41 #[aH aA aB (some ⟨pb,po,none⟩) xs.length cap] w' fun e w''=>e= .returned (.bool true)∧Ext w' w'':=fun w' hy=>by have:=gZ aA aB _ xs.length cap xs w' (hS.ext hy);rwa[d]at this
 have HI: ∀w,Calls Tryz.prog 43 #[(u:Int),(),((xs.length:Int)-1:Int)] w fun e w'=>e= .returned (.bool true)∧w=w':=fun w=>by have:=qP (u:Int) 0 ((xs.length:Int)-1) w;rwa[show decide ((0:Int)≤(u:Int)∧(u:Int)≤(xs.length:Int)-1)=true by simp;omega]at this
 have HW: ∀w',Ext w w'→Calls Tryz.prog 205 #[aH aA aB (some ⟨pb,po,none⟩) xs.length cap,.slice (some ⟨b,f,none⟩) m lc] w' fun e w''=>e= .returned (.bool true)∧Ext w' w'':=fun w' hy=>
  aGk aA aB _ xs.length cap b f m lc (cY aA xs.length 12 u) w' g5 g6 (by omega) (by omega) hm (Nat.lt_of_lt_of_le hb hy.sz) (fun k x hx=>(hy.cells.1 _ _ hb).trans (a k x hx)) u ((hy.cells.1 _ _ hb).trans i)
   (fun k x y hx hxy w2 hy2=>by
    have h2:=sP hg 12 u k x y hu hx hxy;have q:=aFn hg 12 u x hu (List.mem_of_getElem? hx);have:=zW aA aB (x:Int) (y:Int) _ xs.length cap xs w2 (hS.ext (hy.trans hy2));rw[aAz d q h2.2]at this
    exact this) (fun w2 hy2=>HV w2 (hy.trans hy2)) HI
 exact aIx aA aB pb po xs.length cap xs b f m lc u (cY aA xs.length 12 u).tail (cY aA xs.length 12 u) w g5 g6 (by omega) (by omega) c hm hb l d rfl hu g (rH hg 12 u hu) a i j HW
  (fun w' hy=>(fG aA aB _ xs.length cap xs w' (by omega) (hS.ext hy)).mono fun e w'' h=>h)
def jT (aA:Int)(n:Nat):Option Nat→List Nat
 |none=> []
 |some u=>cY aA n 12 u
theorem xD {aA:Int}{n:Nat}(hg:(aA,n)∈iD){l:List Nat}(hl: ∀x∈l,x<n):(jT aA n (cO aA l)).length≤6:=by
 cases h:cO aA l with
 |none=>simp[jT]
 |some u=>exact(iT hg (hl u ((iO aA l).2 u h))).2.1
theorem xZ {aA:Int}{n:Nat}(hg:(aA,n)∈iD){l:List Nat}(hl: ∀x∈l,x<n){u:Nat}(hu:u<n):
  ((jT aA n (cO aA l)).length=0∨(cY aA n 12 u).length<(jT aA n (cO aA l)).length→cO aA (l++ [u])=some u)∧
  (¬((jT aA n (cO aA l)).length=0∨(cY aA n 12 u).length<(jT aA n (cO aA l)).length)→cO aA (l++ [u])=cO aA l):=by
 obtain⟨k1,k2,k3⟩:=iT hg hu;rw[aA1];cases h:cO aA l with
 |none=>simp[jT,mO]
 |some v=>
  obtain⟨m1,m2,m3⟩:=iT hg (hl v ((iO aA l).2 v h));simp only[jT,mO];constructor
  ·intro hc;rw[if_pos (by omega)]
  intro hc;rw[if_neg (by omega)]
theorem aDn (aA aB:Int)(p:OA)(n cap:Nat)(fr:List Nat)(F:Nat)(w:World)(hg:Hid ((aA,n)∈iD))(hn:n≤12)(hF:Hid (fr.length=F))(ai:F≤12)(g:Hid (∀x∈fr,x<n))
  (HF:xC 151 #[aH aA aB p n cap] w fun w' e w''=> ∃q c,e= .returned (.slice q F c)∧w''.ownsRow w'.heap.size TI 1 (.slice q F c) F (ivs (bA fr))∧Ext w' w'')
  (m:Hid (∀(u:Nat),u<n→ ∀w',Ext w w'→Calls Tryz.prog 204 #[aH aA aB p n cap,(u:Int),(),(-1:Int)] w' (bH (bA (cY aA n 12 u)) w'))):
  Calls Tryz.prog 178 #[aH aA aB p n cap,(),(-1:Int)] w (bH (bA (jT aA n (cO aA fr))) w):=by
 go_enter Tryz.func178,Tryz.ntmps178;have ME:=(((Mem.start w).c0 TH3 #[aA,aB,.slice p n cap]).made0 TI 1 (w.heap.size+1) (by simp))
 go_wp2_with fail;refine(HF _ ME.ext).mono ?_;rintro e w1 ⟨q1,c1,rfl,t,z⟩;have M1:=(ME.call z t)
 clear ME z t;have ag:=M1.hi 2;go_wp2;go_loopw [7,9] (fun v i wr=> ∃(k:Nat) (qb:OA) (l lb:Nat),k≤F∧i= .int .i64 k∧v= .slice qb l lb∧l=(jT aA n (cO aA (fr.take k))).length∧Mem w wr [aI w.heap.size TI 1 (qb) (l) (lb) (ivs (bA (jT aA n (cO aA (fr.take k))))),aI w.heap.size TI 1 (q1) (F) (c1) (ivs (bA fr)),aJ w.heap.size (w.heap.size) TH3 #[aA,aB,.slice p n cap]]) (fun _ i _=>F-(intOf i).toNat)
 case atStart=>exact⟨0,some ⟨w.heap.size+1,0,none⟩,0,0,Nat.zero_le _,rfl,rfl,rfl,(M1.pick [1,0,2] (by decide) rfl)⟩
 case round=>
  clear M1;obtain⟨k,qb,l,lb,hk,rfl,rfl,hl,hM⟩:=hrel;have HM:=hM;have a:=xQ hl;have am:l≤6:=by rw[hl];exact xD hg.out (fun x hx=>g.out x (List.mem_of_mem_take hx))
  have s:w.heap.size<wr.heap.size:=(HM.hi 2)
  clear hM hl;by_cases hlt:k<F
  ·obtain⟨u,hu⟩: ∃u,fr[k]? =some u:=⟨_,List.getElem?_eq_getElem (by rw[hF.out];exact hlt)⟩
   have j:u<n:=g.out u (List.mem_of_getElem? hu);obtain⟨gf,rfl,al,ad⟩:=HM.so 1;have cu:wr.cell? ⟨gf,k,none⟩=some (.int .i64 (u:Int)):=by have:=(HM.ow 1).cellAt k (by omega);rw[this];simp[ivs,bA,hu]
   obtain⟨b,d⟩:=xZ hg.out (l:=fr.take k) (fun x hx=>g.out x (List.mem_of_mem_take hx)) j;rw[←bI hu,←a.out]at b d;obtain⟨k1,k2,k3⟩:=iT hg.out j;have K3:=xQ k3;obtain⟨W,hW⟩: ∃W,W=(cY aA n 12 u).length:=⟨_,rfl⟩
   rw[←hW]at k1 k2 b d;have o:=xQ b;have aa:=xQ d;have f:=xQ hW;have HC:=xQ (fun w' (hx:Ext w w')=>m u j w' hx);clear hu b d hW k3;have i1:(0:Int)≤(k:Int):=by omega
   have i2:(k:Int)<(F:Int):=by omega
   go_wp2;refine rL (gl [gEq (.agg #[aA,aB,.slice p n cap]),gEq (.slice (some ⟨gf,0,none⟩) F c1),gEq (k:Int),gEq (.pointer (some ⟨gf,k,none⟩)),gEq (u:Int),gEq (.int .i64 0),gEq (-1:Int),(fun v w'=> ∃q c,v= .slice q (W) c∧w'.ownsRow wr.heap.size TI 1 (.slice q (W) c) (W) (ivs (bA (cY aA n 12 u))))]) 8 9 [(0,some 20),(1,some 21),(2,some 22),(3,some 23),(4,some 24),(5,some 25),(6,some 26),(7,some 27)] ?steps ?fin (hG:=(mT (bL (bP _) (bL (bP _) (bL (bP _) (bL (bP _) (bL (bP _) (bL (bP _) (bL (bP _) (bL (fun v w w' ⟨q,c,he,ho⟩ hx=>⟨q,c,he,bD ho hx⟩) (pS)))))))))))
   case steps=>
    refine sC [] rfl (fun wi hx=> ?_) ?_
    ·intro K hK;have hX:=hx.of_drew;obtain⟨ab,aj,ak⟩:=((HM.bk 2).ext hX).tri;go_simp;exact hK _ _ ⟨.agg #[aA,aB,.slice p n cap],rfl,rfl,Ext.refl _⟩
    refine sS0 [] (sS0 [] (sS2 [(1,some 21),(2,some 22)] ?_));refine sC [(3,some 23)] rfl (fun wi hx=> ?_) ?_
    ·intro v3 h3 K hK;obtain rfl:=h3;have hX:=hx.of_drew;have ab:wi.cell? ⟨gf,k,none⟩=some (.int .i64 (u:Int)):=(hX.cells.1 _ _ ad).trans cu;go_simp;exact hK _ _ ⟨.int .i64 (u:Int),rfl,rfl,Ext.refl _⟩
    refine sS0 [] (sS0 [] ?_);refine sC [(0,some 20),(4,some 24),(5,some 25),(6,some 26)] rfl (fun wi hx=> ?_) StepsL.nil
    ·intro v0 h0 v4 h4 v5 h5 v6 h6 K hK;obtain rfl:=h0;obtain rfl:=h4;obtain rfl:=h5;obtain rfl:=h6;have hX:=hx.of_drew;go_wp2_with fail;refine(HC _ (HM.ext.trans hX)).mono ?_;rintro e w5 ⟨q5,c5,rfl,o5,af⟩;have ae:(bA (cY aA n 12 u)).length=W:=by rw[f.out];simp[bA]
     rw[ae]at o5⊢;go_simp;exact hK _ _ ⟨.slice q5 (W) c5,rfl,⟨q5,c5,rfl,bK o5 (by have:=hX.sz;simpa using this)⟩,af⟩
   case fin=>
    intro wi hx v0 h0 v1 h1 v2 h2 v3 h3 v4 h4 v5 h5 v6 h6 v7 h7;obtain rfl:=h0;obtain rfl:=h1;obtain rfl:=h2;obtain rfl:=h3;obtain rfl:=h4;obtain rfl:=h5;obtain rfl:=h6;obtain⟨q7,c7,rfl,y⟩:=h7;have hX:Ext wr wi:=hx.of_drew;have M1:=(show Mem w wi [aI w.heap.size TI 1 (q7) (W) (c7) (ivs (bA (cY aA n 12 u))),aI w.heap.size TI 1 (qb) (l) (lb) (ivs (bA (jT aA n (cO aA (fr.take k))))),aI w.heap.size TI 1 (some ⟨gf,0,none⟩) (F) (c1) (ivs (bA fr)),aJ w.heap.size (w.heap.size) TH3 #[aA,aB,.slice p n cap]]from HM.ownNew hX y (Nat.le_refl _))
    clear HM;have ah:=M1.hi 3;try go_frame
    refine wpAny_ready (rs:= [8]) (by kernel_rfl) (by simp) ?_;refine AllReady.cons rfl (fun K hK=> ?_) AllReady.nil;go_simp;refine hK _ _ ?_;clear hK K;refine wpAny_done (by kernel_rfl) ?_ _;try go_frame
    clear hx hX cu y HC s;have p1:decide ((0:Int)<(W:Int))=true:=by simp;omega
    by_cases h0:l=0
    ·have hn:=xQ (o (.inl h0));have t1:((l:Int)==0)=true:=by simp[h0]
     clear h0;go_wp2;go_roundw
     case rel=>exact⟨k+1,q7,W,c7,by omega,by go_num,rfl,by rw[hn.out];exact f.out,by rw[hn.out];exact(M1.pick [0,2,3] (by decide) rfl)⟩
     case measure=>simp[intOf];omega
    have t1:((l:Int)==0)=false:=by simp[h0]
    by_cases h1:W<l
    ·have hn:=xQ (o (.inr h1));have t2:decide ((W:Int)<(l:Int))=true:=by simp[h1]
     have t3:decide (W<l)=true:=by simp[h1]
     go_wp2;go_roundw
     case rel=>exact⟨k+1,q7,W,c7,by omega,by go_num,rfl,by rw[hn.out];exact f.out,by rw[hn.out];exact(M1.pick [0,2,3] (by decide) rfl)⟩
     case measure=>simp[intOf];omega
    have hn:=xQ (aa (fun h=>h.elim h0 h1));have t2:decide ((W:Int)<(l:Int))=false:=by simp;omega
    have t3:decide (W<l)=false:=by simp;omega
    go_wp2;go_roundw
    case rel=>exact⟨k+1,qb,l,lb,by omega,by go_num,rfl,by rw[hn.out];exact a.out,by rw[hn.out];exact(M1.pick [1,2,3] (by decide) rfl)⟩
    case measure=>simp[intOf];omega
  obtain rfl:F=k:=by omega
  have r:Hid (fr.take F=fr):=by show _=_;rw[List.take_of_length_le (by rw[hF.out];omega)]
  go_wp2;go_ret;rw[r.out]at a HM;exact dP (by rw[List.length_map];exact a.out.symm) (HM.ow 0) HM.ext
theorem pC (aA aB:Int)(p:OA)(n cap:Nat)(xs:List Int)(w:World)(hS:Sl w p n cap 1 (ivs xs))(a:aN aA aB xs=true):
  Calls Tryz.prog 178 #[aH aA aB p n cap,(),(-1:Int)] w (bH (bA (jT aA n (cO aA (bE xs)))) w):=by
 have hl:=hS.ilen;subst hl;obtain⟨g1,g2,g3,g4,g5,g6,g7⟩:=cG (cK a);have b:(bE xs).length≤12:=by unfold bE;exact Nat.le_trans (List.length_filter_le _ _) (by simp;omega)
 refine aDn aA aB p xs.length cap (bE xs) _ w (jM a) g6 rfl b (fun x hx=>(jN hx).1) (fun w' hy=> ?_) (fun u hu w' hy=>yY aA aB p xs.length cap u xs w' (hS.ext hy) a hu);have:=aIz aA aB p xs.length cap xs w' (hS.ext hy);rw[a,if_pos rfl,vO]at this;refine this.mono fun e w'' h=> ?_
 obtain⟨q,c,h1,h2,h3⟩:=h;rw[List.length_map]at h1 h2;exact⟨q,c,h1,h2,h3⟩
def oE (r:Option (List Int×List Sl2))(w:World)(e:Ending)(w':World):Prop:=
 match r with
 |none=> ∃v,e= .returned (.tuple #[v,.bool false])∧Ext w w'
 |some r=> ∃q c,e= .returned (.tuple #[.slice q r.2.length c,.bool true])∧w'.ownsRow w.heap.size TSL 2 (.slice q r.2.length c) r.2.length (r.2.flatMap aK)∧Ext w w'
theorem aGx (aA aB:Int)(p:OA)(n cap:Nat)(w:World)
  (HV:xB 41 #[aH aA aB p n cap] w true)
  (HN:xC 178 #[aH aA aB p n cap,(),(-1:Int)] w fun w' e w''=> ∃q c,e= .returned (.slice q 0 c)∧w''.ownsRow w'.heap.size TI 1 (.slice q 0 c) 0 []∧Ext w' w''):
  Calls Tryz.prog 131 #[aH aA aB p n cap] w (oE none w):=by
 go_enter Tryz.func131,Tryz.ntmps131;have ME:=(((Mem.start w).c0 TH3 #[aA,aB,.slice p n cap]).made0 TI 1 (w.heap.size+1) (by simp))
 go_wp2_with fail;refine(HV _ ME.ext).mono ?_;rintro e w1 ⟨rfl,d⟩;have M1:=(ME.adv d)
 clear ME d;have a:=M1.hi 1;obtain⟨g,h,i⟩:=(M1.bk 1).tri;go_wp2_with fail;clear g h i;refine(HN _ M1.ext).mono ?_;rintro e w2 ⟨qw,cw,rfl,b,f⟩;have M2:=(M1.call f b)
 clear M1 a f b;have j:=M2.hi 2;have HX:=xQ (M2.ext);go_wp2;exact bodyPost_ret (v:= .tuple #[.slice (some ⟨w2.heap.size,0,none⟩) 0 0,.bool false]) (by simp[results,Tryz.results131,go_sem, *]) rfl ⟨_,rfl,by have:=HX.out;exact .alloc this _⟩
theorem aDz (aA aB:Int)(p:OA)(n cap:Nat)(j:List Nat)(W:Nat)(r:List Int×List Sl2)(w:World)(h0:0<W)
  (HV:xB 41 #[aH aA aB p n cap] w true)
  (HN:xC 178 #[aH aA aB p n cap,(),(-1:Int)] w fun w' e w''=> ∃q c,e= .returned (.slice q W c)∧w''.ownsRow w'.heap.size TI 1 (.slice q W c) W (ivs (bA j))∧Ext w' w'')
  (HS:Hid (∀w' q c,Ext w w'→Sl w' q W c 1 (ivs (bA j))→Calls Tryz.prog 179 #[aH aA aB p n cap,.slice q W c] w' (gO r.2 w'))):
  Calls Tryz.prog 131 #[aH aA aB p n cap] w (oE (some r) w):=by
 have t0:((W:Int)==0)=false:=by simp;omega
 go_enter Tryz.func131,Tryz.ntmps131;have ME:=(((Mem.start w).c0 TH3 #[aA,aB,.slice p n cap]).made0 TI 1 (w.heap.size+1) (by simp))
 go_wp2_with fail;refine(HV _ ME.ext).mono ?_;rintro e w1 ⟨rfl,h⟩;have M1:=(ME.adv h)
 clear ME h;have f:=M1.hi 1;obtain⟨a,b,d⟩:=(M1.bk 1).tri;go_wp2_with fail;clear a b d;refine(HN _ M1.ext).mono ?_;rintro e w2 ⟨qw,cw,rfl,g,i⟩;have M2:=(M1.call i g)
 clear M1 f i g;have l:=M2.hi 2;obtain⟨a,b,d⟩:=(M2.bk 2).tri;go_wp2_with fail;clear a b d;have HH:=xQ (HS _ qw cw M2.ext (M2.sq 0));refine HH.out.mono ?_;rintro e w9 ⟨q9,c9,rfl,o9,k⟩;have HX:=xQ (M2.ext);go_wp2;exact bodyPost_ret (v:= .tuple #[.slice q9 r.2.length c9,.bool true]) (by simp[results,Tryz.results131,go_sem, *]) rfl ⟨q9,c9,rfl,bK o9 HX.out.sz,HX.out.trans k⟩
theorem wY (aA aB:Int)(p:OA)(n cap:Nat)(xs:List Int)(w:World)(hS:Sl w p n cap 1 (ivs xs))(a:aN aA aB xs=true):
  Calls Tryz.prog 131 #[aH aA aB p n cap] w (oE (gM aA xs) w):=by
 have hl:=hS.ilen;subst hl;have hg:=jM a;have HV: ∀w',Ext w w'→Calls Tryz.prog 41 #[aH aA aB p xs.length cap] w' fun e w''=>e= .returned (.bool true)∧Ext w' w'':=fun w' hy=>by have:=gZ aA aB p xs.length cap xs w' (hS.ext hy);rwa[a]at this
 unfold gM;cases hn:cO aA (bE xs)with
 |none=>refine aGx aA aB p xs.length cap w HV (fun w' hy=> ?_);have:=pC aA aB p xs.length cap xs w' (hS.ext hy) a;rw[hn]at this;exact this
 |some u=>
  obtain⟨hu,b⟩:=jN ((iO aA _).2 u hn);obtain⟨k1,k2,k3⟩:=iT hg hu;refine aDz aA aB p xs.length cap (cY aA xs.length 12 u) _ (bY xs u (cY aA xs.length 12 u).tail) w k1 HV (fun w' hy=> ?_) (fun w' q c hy hL=>vK aA aB p xs.length cap xs q _ c u w' (hS.ext hy) a hu b hL);have:=pC aA aB p xs.length cap xs w' (hS.ext hy) a;rw[hn]at this;refine this.mono fun e w'' h=> ?_
  obtain⟨q,c,h1,h2,h3⟩:=h;simp only[jT,List.length_map]at h1 h2;exact⟨q,c,h1,h2,h3⟩
def cF (aA aB:Int)(xs:List Int)(id:Int):List Int×Int:=
 match lE aA aB xs id with
 |none=>(xs,-1)
 |some r=>(r.1,(r.2:Int))
theorem zD (aA aB id:Int)(p:OA)(n cap:Nat)(xs:List Int)(w:World)(j:Hid (xs.length=n))
  (HV:xB 41 #[aH aA aB p n cap] w true)
  (HC:xC 131 #[aH aA aB p n cap] w fun w' e w''=> ∃v,e= .returned (.tuple #[v,.bool false])∧Ext w' w'')
  (HL:xC 81 #[aH aA aB p n cap] w fun w' e w''=> ∃q c,e= .returned (aH aA aB q n c)∧w''.ownsRow w'.heap.size TI 1 (.slice q n c) n (ivs xs)∧Ext w' w''):
  Calls Tryz.prog 82 #[aH aA aB p n cap,id] w (cM aA aB xs (-1) w):=by
 go_enter Tryz.func82,Tryz.ntmps82;go_wp2_with fail;refine(HV _ (((Mem.start w).c0 TH3 #[aA,aB,.slice p n cap]).c1 TH3 #[(),(),((),())]).ext).mono ?_;rintro e w1 ⟨rfl,m⟩;have M1:=((((Mem.start w).c0 TH3 #[aA,aB,.slice p n cap]).c1 TH3 #[(),(),((),())]).adv m)
 have f:=M1.hi 0;have g:=M1.hi 1;clear m;obtain⟨a,b,d⟩:=(M1.bk 1).tri;go_wp2_with fail;clear a b d;refine(HC _ M1.ext).mono ?_;rintro e w2 ⟨v,rfl,o⟩;have M2:=(M1.adv o)
 clear M1 f g o;have h:=M2.hi 0;have i:=M2.hi 1;obtain⟨a,b,d⟩:=(M2.bk 1).tri;go_wp2_with fail;clear a b d;refine(HL _ M2.ext).mono ?_;rintro e w3 ⟨q0,c0,rfl,k,r⟩;have M3:=(M2.call r k)
 clear M2 h i r k;have s:=M3.hi 1;have t:=M3.hi 2;obtain⟨z0,u,z1,x,z2,y⟩:=(M3.bk 1).trif;go_wp2;clear z0 u z1 x z2 y;have M4:=(((M3.st 1 0 (.int .i64 aA)).st 1 1 (.int .i64 aB)).st 1 2 (.slice q0 n c0))
 generalize l:World.setCell _ _ _=wz;rw[l]at M4;clear l M3;obtain⟨z,aa,ab⟩:=(M4.bk 1).tri;exact bodyPost_ret (v:= .tuple #[.agg #[aA,aB,.slice q0 n c0],(-1:Int)]) (by simp[results,Tryz.results82,go_sem, *]) rfl (eD j.out (M4.ow 0) M4.ext)
theorem aDi (aA aB id:Int)(p:OA)(n cap K:Nat)(xs ys zs:List Int)(sl:List Sl2)(w:World)(r:Hid (xs.length=n))
  (HV:xB 41 #[aH aA aB p n cap] w true)
  (HC:xC 131 #[aH aA aB p n cap] w fun w' e w''=> ∃q c,e= .returned (.tuple #[.slice q K c,.bool true])∧w''.ownsRow w'.heap.size TSL 2 (.slice q K c) K (sl.flatMap aK)∧Ext w' w'')
  (HR:Hid (∀w' q c,Ext w w'→Sl w' q K c 2 (sl.flatMap aK)→Calls Tryz.prog 132 #[aH aA aB p n cap,.slice q K c] w' fun e w''=> ∃q c,e= .returned (.tuple #[aH aA aB q n c,(K:Int)])∧w''.ownsRow w'.heap.size TI 1 (.slice q n c) n (ivs ys)∧Ext w' w''))
  (HP:Hid (∀w' q c,Ext w w'→Sl w' q n c 1 (ivs ys)→Calls Tryz.prog 133 #[aH aA aB q n c,(),id] w' fun e w''=> ∃q c,e= .returned (.tuple #[aH aA aB q n c,.bool false])∧w''.ownsRow w'.heap.size TI 1 (.slice q n c) n (ivs zs)∧Ext w' w''))
  (HL:xC 81 #[aH aA aB p n cap] w fun w' e w''=> ∃q c,e= .returned (aH aA aB q n c)∧w''.ownsRow w'.heap.size TI 1 (.slice q n c) n (ivs xs)∧Ext w' w''):
  Calls Tryz.prog 82 #[aH aA aB p n cap,id] w (cM aA aB xs (-1) w):=by
 go_enter Tryz.func82,Tryz.ntmps82;go_wp2_with fail;refine(HV _ (((Mem.start w).c0 TH3 #[aA,aB,.slice p n cap]).c1 TH3 #[(),(),((),())]).ext).mono ?_;rintro e w1 ⟨rfl,z⟩;have M1:=((((Mem.start w).c0 TH3 #[aA,aB,.slice p n cap]).c1 TH3 #[(),(),((),())]).adv z)
 have f:=M1.hi 0;have g:=M1.hi 1;clear z;obtain⟨a,b,d⟩:=(M1.bk 1).tri;go_wp2_with fail;clear a b d;refine(HC _ M1.ext).mono ?_;rintro e w2 ⟨qs,cs,rfl,s,aa⟩;have M2:=(M1.call aa s)
 clear M1 f g aa s;have h:=M2.hi 1;have i:=M2.hi 2;obtain⟨a,b,d⟩:=(M2.bk 2).tri;go_wp2_with fail;clear a b d;refine(HR _ qs cs M2.ext (M2.sq 0)).mono ?_;rintro e w3 ⟨q1,c1,rfl,t,ab⟩;have M3:=(M2.call ab t)
 clear M2 h i ab t;have j:=M3.hi 2;have k:=M3.hi 3;go_wp2_with fail;refine(HP _ q1 c1 (M3.c0 TH3 #[aA,aB,.slice q1 n c1]).ext ((M3.c0 TH3 #[aA,aB,.slice q1 n c1]).sq 1)).mono ?_;rintro e w4 ⟨q2,c2,rfl,u,ad⟩;have M4:=((M3.c0 TH3 #[aA,aB,.slice q1 n c1]).call ad u)
 clear M3 j k ad u;have l:=M4.hi 1;have m:=M4.hi 4;have o:=M4.hi 5;obtain⟨a,b,d⟩:=(M4.bk 5).tri;go_wp2_with fail;clear a b d;refine(HL _ (M4.c0 TH3 #[aA,aB,.slice q2 n c2]).ext).mono ?_;rintro e w5 ⟨q0,c0,rfl,x,ae⟩;have M5:=((M4.c0 TH3 #[aA,aB,.slice q2 n c2]).call ae x)
 clear M4 l m o ae x;have af:=M5.hi 1;have ag:=M5.hi 3;have ah:=M5.hi 6;have ai:=M5.hi 7;obtain⟨z0,aj,z1,ak,z2,al⟩:=(M5.bk 6).trif;go_wp2;clear z0 aj z1 ak z2 al;have M6:=(((M5.st 6 0 (.int .i64 aA)).st 6 1 (.int .i64 aB)).st 6 2 (.slice q0 n c0))
 generalize y:World.setCell _ _ _=wz;rw[y]at M6;clear y M5;obtain⟨am,an,ao⟩:=(M6.bk 6).tri;exact bodyPost_ret (v:= .tuple #[.agg #[aA,aB,.slice q0 n c0],(-1:Int)]) (by simp[results,Tryz.results82,go_sem, *]) rfl (eD r.out (M6.ow 0) M6.ext)
theorem aBa (aA aB id:Int)(p:OA)(n cap K:Nat)(ys zs:List Int)(sl:List Sl2)(w:World)(l:Hid (zs.length=n))
  (HV:xB 41 #[aH aA aB p n cap] w true)
  (HC:xC 131 #[aH aA aB p n cap] w fun w' e w''=> ∃q c,e= .returned (.tuple #[.slice q K c,.bool true])∧w''.ownsRow w'.heap.size TSL 2 (.slice q K c) K (sl.flatMap aK)∧Ext w' w'')
  (HR:Hid (∀w' q c,Ext w w'→Sl w' q K c 2 (sl.flatMap aK)→Calls Tryz.prog 132 #[aH aA aB p n cap,.slice q K c] w' fun e w''=> ∃q c,e= .returned (.tuple #[aH aA aB q n c,(K:Int)])∧w''.ownsRow w'.heap.size TI 1 (.slice q n c) n (ivs ys)∧Ext w' w''))
  (HP:Hid (∀w' q c,Ext w w'→Sl w' q n c 1 (ivs ys)→Calls Tryz.prog 133 #[aH aA aB q n c,(),id] w' fun e w''=> ∃q c,e= .returned (.tuple #[aH aA aB q n c,.bool true])∧w''.ownsRow w'.heap.size TI 1 (.slice q n c) n (ivs zs)∧Ext w' w'')):
  Calls Tryz.prog 82 #[aH aA aB p n cap,id] w (cM aA aB zs (K:Int) w):=by
 go_enter Tryz.func82,Tryz.ntmps82;go_wp2_with fail;refine(HV _ (((Mem.start w).c0 TH3 #[aA,aB,.slice p n cap]).c1 TH3 #[(),(),((),())]).ext).mono ?_;rintro e w1 ⟨rfl,t⟩;have M1:=((((Mem.start w).c0 TH3 #[aA,aB,.slice p n cap]).c1 TH3 #[(),(),((),())]).adv t)
 have f:=M1.hi 0;have g:=M1.hi 1;clear t;obtain⟨a,b,d⟩:=(M1.bk 1).tri;go_wp2_with fail;clear a b d;refine(HC _ M1.ext).mono ?_;rintro e w2 ⟨qs,cs,rfl,m,u⟩;have M2:=(M1.call u m)
 clear M1 f g u m;have h:=M2.hi 1;have i:=M2.hi 2;obtain⟨a,b,d⟩:=(M2.bk 2).tri;go_wp2_with fail;clear a b d;refine(HR _ qs cs M2.ext (M2.sq 0)).mono ?_;rintro e w3 ⟨q1,c1,rfl,o,x⟩;have M3:=(M2.call x o)
 clear M2 h i x o;have j:=M3.hi 2;have k:=M3.hi 3;go_wp2_with fail;refine(HP _ q1 c1 (M3.c0 TH3 #[aA,aB,.slice q1 n c1]).ext ((M3.c0 TH3 #[aA,aB,.slice q1 n c1]).sq 1)).mono ?_;rintro e w4 ⟨q2,c2,rfl,r,y⟩;have M4:=((M3.c0 TH3 #[aA,aB,.slice q1 n c1]).call y r)
 clear M3 j k y r;have z:=M4.hi 1;have aa:=M4.hi 4;have ab:=M4.hi 5;obtain⟨z0,ad,z1,ae,z2,af⟩:=(M4.bk 4).trif;go_wp2;clear z0 ad z1 ae z2 af;have M5:=((((M4.st 4 0 (.int .i64 aA)).st 4 1 (.int .i64 aB)).st 4 2 (.slice q2 n c2)).bn TH3 #[aA,aB,.slice q2 n c2] (w4.heap.size))
 generalize s:World.alloc _ _=wz;rw[s]at M5;clear s M4;obtain⟨ag,ah,ai⟩:=(M5.bk 5).tri;exact bodyPost_ret (v:= .tuple #[.agg #[aA,aB,.slice q2 n c2],(K:Int)]) (by simp[results,Tryz.results82,go_sem, *]) rfl (eD l.out (M5.ow 1) M5.ext)
theorem lL (aA aB:Int)(xs:List Int)(id:Int):(cP aA aB xs id).1.length=xs.length:=by unfold cP;split<;>simp
theorem aB7 (aA aB id:Int)(p:OA)(n cap:Nat)(xs:List Int)(w:World)(hS:Sl w p n cap 1 (ivs xs))(a:aN aA aB xs=true):
  Calls Tryz.prog 82 #[aH aA aB p n cap,id] w (cM aA aB (cF aA aB xs id).1 (cF aA aB xs id).2 w):=by
 have hl:=hS.ilen;subst hl;obtain⟨g1,g2,g3,g4,g5,g6,g7⟩:=cG (cK a);have HV: ∀w',Ext w w'→Calls Tryz.prog 41 #[aH aA aB p xs.length cap] w' fun e w''=>e= .returned (.bool true)∧Ext w' w'':=fun w' hy=>by have:=gZ aA aB p xs.length cap xs w' (hS.ext hy);rwa[a]at this
 have HL:=fun(w':World) (hy:Ext w w')=>fG aA aB p xs.length cap xs w' (by omega) (hS.ext hy)
 have HC:=fun(w':World) (hy:Ext w w')=>wY aA aB p xs.length cap xs w' (hS.ext hy) a
 cases hr:gM aA xs with
 |none=>
  have e:cF aA aB xs id=(xs,-1):=by unfold cF lE;rw[hr]
  rw[e];rw[hr]at HC;exact zD aA aB id p xs.length cap xs w rfl HV HC HL
 |some r=>
  rw[hr]at HC;obtain⟨f1,f2,f3,f4,f5⟩:=oA a hr;have HR: ∀w' q c,Ext w w'→Sl w' q r.2.length c 2 (r.2.flatMap aK)→Calls Tryz.prog 132 #[aH aA aB p xs.length cap,.slice q r.2.length c] w' fun e w''=> ∃q c,e= .returned (.tuple #[aH aA aB q xs.length c,(r.2.length:Int)])∧w''.ownsRow w'.heap.size TI 1 (.slice q xs.length c) xs.length (ivs r.1)∧Ext w' w'':=fun w' q c hy hL=>by have:=qF aA aB p xs.length cap xs q r.2.length c r.2 w' (by omega) (hS.ext hy) hL a;rw[f1]at this;unfold cM at this;dsimp only at this;rw[f3]at this;exact this
  have HP: ∀w' q c,Ext w w'→Sl w' q xs.length c 1 (ivs r.1)→Calls Tryz.prog 133 #[aH aA aB q xs.length c,(),id] w' fun e w''=> ∃q c,e= .returned (.tuple #[aH aA aB q xs.length c,.bool (cP aA aB r.1 id).2])∧w''.ownsRow w'.heap.size TI 1 (.slice q xs.length c) xs.length (ivs (cP aA aB r.1 id).1)∧Ext w' w'':=fun w' q c hy hL=>by have:=aCu aA aB id q xs.length c r.1 w' hL f2;unfold cN at this;rw[lL,f3]at this;exact this
  cases hb:(cP aA aB r.1 id).2 with
  |false=>
   have e:cF aA aB xs id=(xs,-1):=by simp[cF,lE,hr,hb]
   rw[e];rw[hb]at HP;exact aDi aA aB id p xs.length cap r.2.length xs r.1 (cP aA aB r.1 id).1 r.2 w rfl HV HC HR HP HL
  |true=>
   have e:cF aA aB xs id=((cP aA aB r.1 id).1,(r.2.length:Int)):=by simp[cF,lE,hr,hb]
   rw[e];rw[hb]at HP;exact aBa aA aB id p xs.length cap r.2.length r.1 (cP aA aB r.1 id).1 r.2 w (show _=_ by rw[lL,f3]) HV HC HR HP
end Go.Proofs.YtpelpnfhbepokaaGreatDoor
namespace Go.Proofs.YtpelpnfhbepokaaGreatDoor
open Go.RowKit
set_option linter.unusedVariables false
set_option linter.unusedSimpArgs false
def fV:Nat→Nat
 |0=>0
 |n+1=>(n+1)%2+fV ((n+1)/2)
decreasing_by omega
theorem qL (n:Nat):fV n=n%2+fV (n/2):=by
 cases n with
 |zero=>rw[fV]
 |succ n=>rw[fV]
theorem tW: ∀(f S:Nat),S.testBit f=false→ ∀k,(S+2 ^ f).testBit k=(S.testBit k || decide (k=f)):=by
 intro f;induction f with
 |zero=>
  intro S h k;rw[Nat.testBit_zero]at h;have h0:S%2=0:=by simp at h;omega
  cases k with
  |zero=>rw[Nat.testBit_zero,Nat.testBit_zero];simp;omega
  |succ k=>rw[Nat.testBit_succ,Nat.testBit_succ,show(S+2 ^ 0)/2=S/2 by simp;omega];simp
 |succ f ih=>
  intro S h k;rw[Nat.testBit_succ]at h;have e:(S+2 ^ (f+1))/2=S/2+2 ^ f:=by rw[Nat.pow_succ];omega
  cases k with
  |zero=>rw[Nat.testBit_zero,Nat.testBit_zero];simp[Nat.pow_succ]<;>omega
  |succ k=>rw[Nat.testBit_succ,Nat.testBit_succ,e,ih _ h];simp
theorem uT: ∀(f S:Nat),S.testBit f=false→fV (S+2 ^ f)=fV S+1:=by
 intro f;induction f with
 |zero=>
  intro S h;rw[Nat.testBit_zero]at h;have h0:S%2=0:=by simp at h;omega
  rw[qL (S+2 ^ 0),qL S,show(S+2 ^ 0)/2=S/2 by simp;omega];simp;omega
 |succ f ih=>
  intro S h;rw[Nat.testBit_succ]at h;have e:(S+2 ^ (f+1))/2=S/2+2 ^ f:=by rw[Nat.pow_succ];omega
  rw[qL (S+2 ^ (f+1)),qL S,e,ih _ h];have:(S+2 ^ (f+1))%2=S%2:=by rw[Nat.pow_succ];omega
  omega
theorem aI7: ∀(t S:Nat),S.testBit t=true→ ∃R,S=R+2 ^ t∧R.testBit t=false:=by
 intro t;induction t with
 |zero=>
  intro S h;rw[Nat.testBit_zero]at h;have h0:S%2=1:=by simpa using h
  exact⟨S-1,by simp;omega,by rw[Nat.testBit_zero];simp;omega⟩
 |succ t ih=>intro S h;rw[Nat.testBit_succ]at h;obtain⟨R,h1,h2⟩:=ih _ h;refine⟨2*R+S%2,by rw[Nat.pow_succ];omega,?_⟩;rw[Nat.testBit_succ,show(2*R+S%2)/2=R by omega];exact h2
theorem tV {t S:Nat}(h:S.testBit t=true):2 ^ t≤S∧(∀k,(S-2 ^ t).testBit k=(S.testBit k&& !decide (k=t)))∧fV S=fV (S-2 ^ t)+1:=by
 obtain⟨R,rfl,h2⟩:=aI7 t S h;rw[Nat.add_sub_cancel];refine⟨Nat.le_add_left _ _,fun k=> ?_,uT _ _ h2⟩;rw[tW _ _ h2];by_cases hk:k=t
 ·subst hk;simp[h2]
 simp[hk]
def cT (S f t:Nat):Nat:=S-2 ^ t+2 ^ f
theorem eE {S f t:Nat}(ht:S.testBit t=true)(hf:S.testBit f=false)(k:Nat):(cT S f t).testBit k=(decide (k=f) || (S.testBit k&& !decide (k=t))):=by
 obtain⟨a,b,c⟩:=tV ht;unfold cT;have d:f≠t:=fun e=>by subst e;rw[ht]at hf;cases hf
 rw[tW _ _ (by rw[b,hf];rfl),b];cases S.testBit k<;>cases decide (k=f)<;>cases decide (k=t)<;>rfl
theorem aEf {S f t:Nat}(ht:S.testBit t=true)(hf:S.testBit f=false):fV (cT S f t)=fV S:=by obtain⟨a,b,c⟩:=tV ht;unfold cT;rw[uT _ _ (by rw[b,hf];rfl),c]
theorem aG8 {a b:Nat}(h: ∀k,a.testBit k=b.testBit k):a=b:=Nat.eq_of_testBit_eq h
theorem aLn {n a:Nat}(h: ∀k,n≤k→a.testBit k=false):a<2 ^ n:=Nat.lt_pow_two_of_testBit a h
theorem sN {n a:Nat}(h:a<2 ^ n){k:Nat}(hk:n≤k):a.testBit k=false:=Nat.testBit_lt_two_pow (Nat.lt_of_lt_of_le h (Nat.pow_le_pow_right (by omega) hk))
theorem qN {n S f t:Nat}(hS:S<2 ^ n)(a:f<n)(ht:S.testBit t=true)(hf:S.testBit f=false):cT S f t<2 ^ n:=by
 refine aLn fun k hk=> ?_
 rw[eE ht hf,sN hS hk];have:k≠f:=by omega
 simp[this]
theorem aEg {S f t:Nat}(ht:S.testBit t=true)(hf:S.testBit f=false):cT (cT S f t) t f=S:=by
 have a:f≠t:=fun e=>by subst e;rw[ht]at hf;cases hf
 refine aG8 fun k=> ?_
 rw[eE (by rw[eE ht hf];simp) (by rw[eE ht hf];simp[Ne.symm a]),eE ht hf];by_cases h1:k=t
 ·subst h1;simp[ht]
 by_cases h2:k=f
 ·subst h2;simp[h1,hf]
 simp[h1,h2]
def iS (p:Nat→Bool):Nat→Nat
 |0=>0
 |k+1=>iS p k+(if p k then 2 ^ k else 0)
theorem oH (p:Nat→Bool)(k:Nat):iS p k<2 ^ k:=by
 induction k with
 |zero=>simp[iS]
 |succ k ih=>unfold iS;rw[Nat.pow_succ];split<;>omega
theorem aJe (p:Nat→Bool)(k j:Nat):(iS p k).testBit j=(decide (j<k)&&p j):=by
 induction k with
 |zero=>simp[iS]
 |succ k ih=>
  have hk:(iS p k).testBit k=false:=sN (oH p k) (Nat.le_refl _);unfold iS;cases hp:p k with
  |false=>
   simp only[Bool.false_eq_true,if_false,Nat.add_zero];rw[ih];by_cases h:j=k
   ·subst h;simp[hp]
   have:(j<k+1)↔j<k:=by omega
   simp[this]
  |true=>
   simp only[if_true];rw[tW _ _ hk,ih];by_cases h:j=k
   ·subst h;simp[hp]
   have:(j<k+1)↔j<k:=by omega
   simp[this,h]
theorem aH0 (p:Nat→Bool)(k:Nat):fV (iS p k)=((List.range k).filter p).length:=by
 induction k with
 |zero=>simp[iS,fV]
 |succ k ih=>
  have hk:(iS p k).testBit k=false:=sN (oH p k) (Nat.le_refl _);rw[List.range_succ,List.filter_append,List.length_append,←ih,show iS p (k+1)=iS p k+(if p k then 2 ^ k else 0)from rfl];cases hp:p k with
  |false=>simp[hp]
  |true=>simp only[if_true];rw[uT _ _ hk];simp[hp]
def aM (xs:List Int):Nat:=iS (cV xs) xs.length
theorem eB (xs:List Int)(k:Nat):(aM xs).testBit k=cV xs k:=by
 unfold aM;rw[aJe];by_cases h:k<xs.length
 ·simp[h]
 have:cV xs k=false:=by unfold cV;rw[List.getElem?_eq_none (by omega)];rfl
 rw[this];simp
theorem mU (xs:List Int):aM xs<2 ^ xs.length:=oH _ _
theorem aAs (xs:List Int):fV (aM xs)=(bE xs).length:=aH0 _ _
end Go.Proofs.YtpelpnfhbepokaaGreatDoor
