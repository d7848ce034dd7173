/- Lemmas (@packed). -/
import Derived.Test.YthfmmibomhhmpabGreatDoorZ7
namespace Go.Proofs.YthfmmibomhhmpabGreatDoor
open Go.RowKit Go.Proofs.Tryz
set_option linter.all false
set_option maxHeartbeats 8000000
set_option maxRecDepth 100000
variable{M t S s f v c u k:Nat}(aA aB id:Int)(p:OA)(n a K:Nat)(xs ys zs:List Int)(sl:List Sl2)(w:World)
theorem qR (a b:Int): ∀u∈aK (a,b),u.oneCell'=true:=by intro u hu;simp[aK]at hu;rcases hu with rfl|rfl<;>rfl
theorem aQd (pb po:Nat)(n d:Nat)(xs:List Int)(b f m c2 u:Nat)(s ws:List Nat)(w:World)(b4:4≤n)(hn:n≤12)(b3:0<m)(hm:m≤12)(bd:Hid (ws=u::s))(a6:Hid (ws.length=m))(hb:b<w.heap.size)(bo:pb<w.heap.size)(bm:Hid (aO aA aB xs=true))(a3:Hid (xs.length=n))(hu:u<n)(bq:Hid (xs.getD u 0=0))(bp:Hid (qO aA n u s))(HS:Hid (∀(k x:Nat),ws[k]? =some x→w.cell? ⟨b,f+k,none⟩=some (I x)))(bg:w.cell? ⟨b,f,none⟩=some (I u))(bf:w.cell? ⟨pb,po+u,none⟩=some (I 0))(HW:xB 197 #[aH aA aB (some ⟨pb,po,none⟩) n d,.slice (some ⟨b,f,none⟩) m c2] w true)(HL:xC 87 #[aH aA aB (some ⟨pb,po,none⟩) n d] w fun w' e w''=> ∃q c,e= .returned (aH aA aB q n c)∧w''.ownsRow w' TI 1 (.slice q n c) n (ivs xs)∧Ext w' w''):
  U 165 #[aH aA aB (some ⟨pb,po,none⟩) n d,.slice (some ⟨b,f,none⟩) m c2] w (iO (cT xs u s).2 w):=by
 have j1:=aYp u;have j2:=aYq u n;go_enter func165,ntmps165;go_wp2;have ME:=(((Mem.start w).c0 TH3 #[aA,aB,.slice (some ⟨pb,po,none⟩) n d]).made0 TSL 2 (w.heap.size+1) (by simp))
 have X0:=xQ (show Ext w ((w.alloc (.cells #[aA,aB,.slice (some ⟨pb,po,none⟩) n d] TH3)).alloc (.cells #[] TSL))from ME.ext);refine rL (gl [gEq (.agg #[aA,aB,.slice (some ⟨pb,po,none⟩) n d]),gEq (.slice (some ⟨b,f,none⟩) m c2),gEq (.bool true),gEq (.bool false),gEq (.bool false),gEq (.pointer (some ⟨w,2,none⟩)),gEq (.slice (some ⟨pb,po,none⟩) n d),gEq (.slice (some ⟨b,f,none⟩) m c2),gEq (.pointer (some ⟨b,f,none⟩)),gEq (u:Int),gEq (.pointer (some ⟨pb,po+u,none⟩)),gEq (I 0),gEq (.bool false),gEq (.bool false)]) 14 14 [(0,some 12),(1,some 13),(2,some 14),(3,some 15),(4,some 16),(5,some 17),(6,some 18),(7,some 19),(8,some 20),(9,some 21),(10,some 22),(11,some 23),(12,some 24),(13,some 25)] ?steps ?fin
 case steps=>
  refine sC [] rfl (fun wi hx=> ?_) ?_
  ·intro K hK;have hX:Ext ((w.alloc (.cells #[aA,aB,.slice (some ⟨pb,po,none⟩) n d] TH3)).alloc (.cells #[] TSL)) wi:=by exact .trans (.drew (.refl _)) hx
   obtain⟨ab,bz,b0⟩:=((ME.bk 1).ext hX).tri;go_simp;exact hK _ _ ⟨.agg #[aA,aB,.slice (some ⟨pb,po,none⟩) n d],rfl,rfl,Ext.refl _⟩
  refine sS0 [] ?_;refine sC [(0,some 12),(1,some 13)] rfl (fun wi hx=> ?_) ?_
  ·intro v0 h0 v1 h1 K hK;subst h0 h1;have hX:Ext w wi:=by exact .trans (.drew (.alloc (.alloc (.refl _) _) _)) hx
   go_wp2_with fail;refine Ω (HW _ hX) fun w5 ah=>?_
   go_simp;exact hK _ _ ⟨.bool true,rfl,rfl,ah⟩
  refine sS1 [(2,some 14)] (sS1 [(3,some 15)] (sS1 [(4,some 16)] ?_));refine sC [(4,some 16),(5,some 17)] rfl (fun wi hx=> ?_) ?_
  ·intro v4 h4 v5 h5 K hK;subst h4 h5;have hX:Ext ((w.alloc (.cells #[aA,aB,.slice (some ⟨pb,po,none⟩) n d] TH3)).alloc (.cells #[] TSL)) wi:=by exact .trans (.drew (.refl _)) hx
   have ab:=((ME.bk 1).ext hX).cl 2;go_simp;exact hK _ _ ⟨.slice (some ⟨pb,po,none⟩) n d,rfl,rfl,Ext.refl _⟩
  refine sS1 [(4,some 16)] (sS2 [(4,some 16),(7,some 19)] ?_);refine sC [(4,some 16),(8,some 20)] rfl (fun wi hx=> ?_) ?_
  ·intro v4 h4 v8 h8 K hK;subst h4 h8;have hX:Ext ((w.alloc (.cells #[aA,aB,.slice (some ⟨pb,po,none⟩) n d] TH3)).alloc (.cells #[] TSL)) wi:=by exact .trans (.drew (.refl _)) hx
   have ab:wi.cell? ⟨b,f,none⟩=some (I u):=(X0.out.trans hX).cells.1 _ _ hb |>.trans bg;go_simp;exact hK _ _ ⟨I u,rfl,rfl,Ext.refl _⟩
  refine sS3 [(4,some 16),(6,some 18),(9,some 21)] ?_;refine sC [(4,some 16),(10,some 22)] rfl (fun wi hx=> ?_) ?_
  ·intro v4 h4 bc ad K hK;obtain rfl:=h4;obtain rfl:=ad;have hX:Ext ((w.alloc (.cells #[aA,aB,.slice (some ⟨pb,po,none⟩) n d] TH3)).alloc (.cells #[] TSL)) wi:=by exact .trans (.drew (.refl _)) hx
   have ab:wi.cell? ⟨pb,po+u,none⟩=some (I 0):=(X0.out.trans hX).cells.1 _ _ bo |>.trans bf;go_simp;exact hK _ _ ⟨I 0,rfl,rfl,Ext.refl _⟩
  exact sS2 [(4,some 16),(11,some 23)] (sS2 [(4,some 16),(12,some 24)] StepsL.nil)
 case fin=>
  intro wi hx v0 h0 v1 h1 v2 h2 v3 h3 v4 h4 v5 h5 v6 h6 v7 h7 v8 h8 v9 h9 bc ad b6 bh b7 bi b8 bj;subst h0 h1 h2 h3 h4 h5 h6 h7 h8 h9;obtain rfl:=ad;obtain rfl:=bh;obtain rfl:=bi;obtain rfl:=bj;refine wpAny_done (by kernel_rfl) ?_ _;try go_frame
  have hX:Ext ((w.alloc (.cells #[aA,aB,.slice (some ⟨pb,po,none⟩) n d] TH3)).alloc (.cells #[] TSL)) wi:=hx.of_drew;have M1:=(ME.adv hX)
  clear ME X0 hx hX;obtain⟨c0,c1,c2⟩:=(M1.bk 1).tri;go_wp2_with fail;clear c0 c1 c2;refine(HL _ M1.ext).mono ?_;rintro e w2 ⟨q0,c0,rfl,a5,a8⟩;have M2:=(M1.call a8 a5)
  clear M1 a8 a5 HW;have ay:=xQ (M2.c0 TH3 #[aA,aB,.slice q0 n c0]);go_wp2;go_loopw [5,7] (fun v i wr=> ∃(k x:Nat) (rest:List Nat) (ys:List Int) (q:OA) (c:Nat) (q5:OA) (l lc:Nat) (sl:List Sl2),1≤k∧k≤m∧i=I k∧v= .slice q5 l lc∧l=sl.length∧l≤k∧ws.drop (k-1)=x::rest∧aO aA aB ys=true∧ys.length=n∧x<n∧ys.getD x 0=0∧qO aA n x rest∧sl++(cT ys x rest).2=(cT xs u s).2∧Mem w wr [aI w w2 TH3 #[aA,aB,.slice q n c],aJ w TI 1 (q) (n) (c) (ivs ys),aJ w TSL 2 (q5) (l) (lc) (sl.flatMap aK),aI w w TH3 #[aA,aB,.slice (some ⟨pb,po,none⟩) n d]]) (fun _ i _=>m-(intOf i).toNat)
  case atStart=>exact⟨1,u,s,xs,q0,c0,some ⟨w.heap.size+1,0,none⟩,0,0,[],aVz _,by omega,rfl,rfl,rfl,by omega,by rw[bd.out];rfl,bm.out,a3.out,hu,bq.out,bp.out,rfl,ay.out⟩
  case round=>
   clear ay M2;obtain⟨k,x,rest,ys,q,c,q5,l,lc,sl,b1,hk,rfl,rfl,hl,b2,az,al,a4,av,a7,an,am,hM⟩:=hrel;have af:=xQ az;have o:=xQ al;have g:=xQ a4;have aq:=xQ a7;have aa:=xQ an;have t:=xQ am;have ap:=xQ hl;have HM:=hM;clear az al a4 a7 an am hM hl;by_cases hlt:k<m
   ·obtain⟨y,rest',p⟩: ∃y rest',rest=y::rest':=by
     have h1:=congrArg List.length af.out;rw[aWt,a6.out]at h1;cases rest with
     |nil=>simp at h1;omega
     |cons y r=>exact⟨y,r,rfl⟩
    subst p;have ba:ws[k-1]? =some x:=by have:=congrArg (fun z=>z[0]?) af.out;simpa using this
    have ae:ws.drop k=y::rest':=by have:=congrArg List.tail af.out;rw[List.tail_drop,show k-1+1=k by omega]at this;exact this
    have bb:ws[k]? =some y:=by have:=congrArg (fun z=>z[0]?) ae;simpa using this
    have aj:=xQ ae;have ar:y∈aU aA n x:=aa.out.1;have a9:y<n:=(cH.1 ar).1;have ao:=xQ ar;have ai:=HM.ext;have ca:wr.cell? ⟨b,f+(k-1),none⟩=some (I x):=(ai.cells.1 _ _ hb).trans (HS (k-1) x ba);have cb:wr.cell? ⟨b,f+k,none⟩=some (I y):=(ai.cells.1 _ _ hb).trans (HS k y bb);have ax:b<wr:=aVy hb ai.sz;clear ae ar ba bb ai;have i1:=aYp k;have i2:=aYq k m;have i3:(k:Int)-1<(m:Int):=by omega
    have i4:((k:Int)-1).toNat=k-1:=by omega
    have i5:(1:Int)≤(k:Int):=by omega
    go_wp2;refine rL (gl [gEq (.slice (some ⟨b,f,none⟩) m c2),gEq (k:Int),gEq (.pointer (some ⟨b,f+k,none⟩)),gEq (y:Int),gEq (.slice (some ⟨b,f,none⟩) m c2),gEq (k:Int),gEq ((k:Int)-1:Int),gEq (.pointer (some ⟨b,f+(k-1),none⟩)),gEq (x:Int),gEq (.agg #[y,x]),aJa wr TSL #[(),()]]) 11 12 [(0,some 35),(1,some 36),(2,some 37),(3,some 38),(4,some 39),(5,some 40),(6,some 41),(7,some 42),(8,some 43),(9,some 44),(10,some 8)] ?steps ?fin
    case steps=>
     refine sS0 [] (sS0 [] (sS2 [(0,some 35),(1,some 36)] ?_));refine sC [(2,some 37)] rfl (fun wi hx=> ?_) ?_
     ·intro v2 h2 K hK;obtain rfl:=h2;have hX:=hx.of_drew;have ab:wi.cell? ⟨b,f+k,none⟩=some (I y):=(hX.cells.1 _ _ ax).trans cb;go_simp;exact hK _ _ ⟨I y,rfl,rfl,Ext.refl _⟩
     refine sS0 [] (sS0 [] ?_);refine sC [(5,some 40)] rfl (fun wi hx=> ?_) ?_
     ·intro v5 h5 K hK;obtain rfl:=h5;have b5:=aYs ((k:Int)-1);go_simp;exact hK _ _ ⟨I ((k:Int)-1),rfl,rfl,Ext.refl _⟩
     refine sS2 [(4,some 39),(6,some 41)] ?_;refine sC [(7,some 42)] rfl (fun wi hx=> ?_) ?_
     ·intro v7 h7 K hK;obtain rfl:=h7;have hX:=hx.of_drew;have ab:wi.cell? ⟨b,f+(k-1),none⟩=some (I x):=(hX.cells.1 _ _ ax).trans ca;go_simp;exact hK _ _ ⟨I x,rfl,rfl,Ext.refl _⟩
     refine sS2 [(3,some 38),(8,some 43)] ?_;refine sC [] rfl (fun wi hx=> ?_) StepsL.nil
     ·intro K hK;go_simp;exact hK _ _ ⟨.pointer (some ⟨wi,0,none⟩),rfl,⟨wi.heap.size,rfl,by have:=hx.sz;simp at this;omega,Blk.new _ _ _⟩,(Ext.refl _).alloc _⟩
    case fin=>
     intro wi hx v0 h0 v1 h1 v2 h2 v3 h3 v4 h4 v5 h5 v6 h6 v7 h7 v8 h8 v9 h9 bc ad;subst h0 h1 h2 h3 h4 h5 h6 h7 h8 h9;obtain⟨ag,rfl,ak,aw⟩:=ad;have hX:Ext wr wi:=hx.of_drew;have M1:=(show Mem w wi [aI w (ag) TSL #[(),()],aI w w2 TH3 #[aA,aB,.slice q n c],aJ w TI 1 (q) (n) (c) (ivs ys),aJ w TSL 2 (q5) (l) (lc) (sl.flatMap aK),aI w w TH3 #[aA,aB,.slice (some ⟨pb,po,none⟩) n d]]from HM.blkOf hX aw ak)
     clear HM hx hX ca cb aw ak;try go_frame
     have z0:=(M1.bk 0).cl 0;have bw:=(M1.bk 0).frozen 0;have z1:=(M1.bk 0).cl 1;have bx:=(M1.bk 0).frozen 1;refine wpAny_ready (rs:= [11]) (by kernel_rfl) (by simp) ?_;refine AllReady.cons rfl (fun K hK=> ?_) AllReady.nil;go_simp;refine hK _ _ ?_;clear hK K z0 bw z1 bx;have M2:=((M1.st 0 0 (I y)).st 0 1 (I x))
     generalize ((wi.setCell ⟨ag,0,none⟩ (I y)).setCell ⟨ag,1,none⟩ (I x))=w4 at M2⊢;clear M1;refine wpAny_done (by kernel_rfl) ?_ _;try go_frame
     obtain⟨h,j⟩:=M2.nq 0 1;obtain⟨n0,n1,n2⟩:=(M2.bk 1).tri;have s0:=(M2.bk 0).cl 0;have s1:=(M2.bk 0).cl 1;have HD:=xQ (fun w' (hx:Ext w4 w')=>oR aA aB (y:Int) (x:Int) q n c ys w' ((M2.sq 2).ext hx) o.out);go_wp2_with fail;refine(HD _ (by exact .refl _)).mono ?_;rintro e w5 ⟨q6,c6,rfl,au,ah⟩;have a2:(bQ aA aB ys (y:Int) (x:Int)).length=n:=by rw[dO,g.out]
     rw[a2]at au⊢;clear a2 HD h j n0 n1 n2 s0 s1;have M3:=(M2.call ah au)
     clear M2 ah au;have br:=M3.hi 1;have bs:=M3.hi 2;by_cases hy0:ys.getD y 0=0
     ·have hm:bM aA aB ys (y:Int) (x:Int)=false:=by have:=aS9 o (by rw[g.out];exact av) aq (by rw[g.out];exact ao.out) hy0;exact this
      have hr:=xQ (vW (a:=x) (l:=rest') hy0);have be:=xQ hy0;clear hy0;rw[hm];clear hm;go_wp2;go_roundw
      case rel=>exact⟨k+1,y,rest',ys,q,c,q5,l,lc,sl,by omega,by omega,by go_num,rfl,ap.out,by omega,by rw[aY7];exact aj.out,o.out,g.out,a9,be.out,aa.out.2,by rw[←t.out,hr.out],((M3.c0 TH3 #[aA,aB,.slice q6 n c6]).pick [3,4,5,6] (by decide) rfl)⟩
      case measure=>simp[intOf];omega
     obtain⟨hm,hd⟩:=aGt o (by rw[g.out];exact av) aq (by rw[g.out];exact ao.out) hy0;obtain⟨n1,n2,n3⟩:=zC o (by rw[g.out];exact av) aq (by rw[g.out];exact ao.out) hy0;have hr:=xQ (sX (a:=x) (l:=rest') hy0);rw[hd]at M3;rw[hm];clear hm hd hy0;generalize (ys.set x (ys.getD y 0)).set y 0=zs at*;have N1:=xQ n1;have N2:=xQ n2;have N3:=xQ n3;clear n1 n2 n3;obtain⟨h,j⟩:=M3.nq 1 2;obtain⟨n0,bt,n1,bu,n2,bv⟩:=(M3.bk 2).trif;have s0:=(M3.bk 1).cl 0;have s1:=(M3.bk 1).cl 1;go_wp2_with (at_builtin;go_loud (refine dN uG rfl _ _ rfl (((((M3.store (i:=2) rfl 0 (I aA)).store (i:=2) rfl 1 (I aB)).store (i:=2) rfl 2 (.slice q6 n c6)).bn TH3 #[aA,aB,.slice q6 n c6] w5).adv ((Ext.refl _).alloc (.cells #[y,x] TSL))) 5 rfl rfl (aK ((y:Int),(x:Int))) rfl (fC _ _ _ 1 2 _ (by simp) (by simp) (by simp[maxLen])) (qR _ _) (by omega) ?_;intro q7 c7 w6 M6));clear h j n0 bt n1 bu n2 bv s0 s1;have M7:=(show Mem w w6 [aI w w5 TH3 #[aA,aB,.slice q6 n c6],aJ w TI 1 (q6) (n) (c6) (ivs zs),aI w (ag) TSL #[y,x],aI w w2 TH3 #[aA,aB,.slice q6 n c6],aJ w TI 1 (q) (n) (c) (ivs ys),aJ w TSL 2 (q7) (l+1) (c7) (sl.flatMap aK++aK ((y:Int),(x:Int))),aI w w TH3 #[aA,aB,.slice (some ⟨pb,po,none⟩) n d]]from M6)
     clear M6 M3;have a1:Hid (sl.flatMap aK++aK ((y:Int),(x:Int))=(sl++ [((y:Int),(x:Int))]).flatMap aK):=by show _=_;rw[aX4];simp
     rw[a1.out]at M7;clear a1;go_wp2;go_roundw
     case rel=>exact⟨k+1,y,rest',zs,q6,c6,q7,l+1,c7,sl++ [((y:Int),(x:Int))],by omega,by omega,by go_num,rfl,by rw[aW5,←ap.out];rfl,by omega,by rw[aY7];exact aj.out,N1.out,by rw[N2.out,g.out],a9,N3.out,aa.out.2,by rw[←t.out,hr.out];simp,(M7.pick [3,1,5,6] (by decide) rfl)⟩
     case measure=>simp[intOf];omega
   obtain rfl:m=k:=by omega
   have p:rest= []:=by
    have h1:=congrArg List.length af.out;rw[aWt,a6.out]at h1;cases rest with
    |nil=>rfl
    |cons y r=>simp at h1;omega
   subst p;have a0:Hid (sl=(cT xs u s).2):=by show _=_;rw[←t.out];simp[cT]
   go_wp2;go_ret;have bl:=ap.out;subst bl;rw[←a0.out];exact⟨q5,lc,rfl,HM.ow 2,HM.ext⟩
abbrev aYm (w:World)(p:Option Addr)(xs:List Int)(c:Nat):Item:=aJ w.heap.size TI 1 p xs.length c (ivs xs)
abbrev aYo (r:aQ)(p:Option Addr)(c:Nat)(q:Option Addr)(d:Nat):Array Value:=#[.int .i64 r.aA,.int .i64 r.aB,.slice p r.cells.length c,.int .i64 r.free,.int .i64 r.step,.int .i64 r.aE,.int .i64 r.aF,.int .i64 r.aD,.int .i64 r.aG,.slice q r.vs.length d]
theorem mS {aA:Int}{n:Nat}(hg:(aA,n)∈lD)(hu:u<n):0<(dS aA n 12 u).length∧(dS aA n 12 u).length≤6∧((dS aA n 12 u).length:Int)=bE aA u 0+1:=by have g:=cL hg hu;have h:=pR hg 12 u hu (by have:=g.2.1;omega);have:=g.1;have:=g.2.1;omega
theorem aH3 {aA aB:Int}{xs:List Int}(a:aO aA aB xs=true){x y:Nat}(hx:x<xs.length)(hy:y∈aU aA xs.length x):eG aA aB xs (x:Int) (y:Int)=1:=by obtain⟨h1,h2⟩:=cH.1 hy;unfold eG;rw[if_pos ⟨a,⟨by omega,by omega⟩,by omega,by omega⟩];exact h2
theorem aC8 (lq:OA)(m lc u:Nat)(w:World)(hS:Sl w p n a 1 (ivs xs))(f:aO aA aB xs=true)(hu:u<n)(i:xs.getD u 0=0)(hL:Sl w lq m lc 1 (ivs (bO (dS aA n 12 u)))):
  U 165 #[aH aA aB p n a,.slice lq m lc] w (iO (cT xs u (dS aA n 12 u).tail).2 w):=by
 have hl:=hS.ilen;subst hl;have hg:=mJ f;obtain⟨g1,g2,g3,g4,g5,g6,g7⟩:=cQ (dH f);obtain⟨k1,k2,k3⟩:=mS hg hu;have hm:=hL.ilen;rw[aWj]at hm;obtain⟨pb,po,rfl,o,q⟩:=hS.rd (by omega);obtain⟨b,g,rfl,hb,hc⟩:=hL.rd (by omega);have c: ∀(k x:Nat),(dS aA xs.length 12 u)[k]? =some x→w.cell? ⟨b,g+k,none⟩=some (I x):=by intro k x hx;have hk:=(aW3.1 hx).1;rw[hc k (by omega)];simp[ivs,bO,hx]
 have d:=aAw aA xs.length 12 u;have j:w.cell? ⟨b,g,none⟩=some (I u):=c 0 u (by rw[d];rfl);have l:w.cell? ⟨pb,po+u,none⟩=some (I 0):=by rw[q u (by omega)];rw[aW7,aW0 hu]at i;simp only[Option.getD_some]at i;simp[ivs,hu,i]
 have HV: ∀w',Ext w w'→U 30 #[aH aA aB (some ⟨pb,po,none⟩) xs.length a] w' (Z (.bool true) w'):=fun w' hy=>by have:=iJ aA aB _ xs.length a xs w' (hS.ext hy);rwa[f]at this
 have HI: ∀w,U 32 #[u,(),((xs.length:Int)-1:Int)] w fun e w'=>e= .returned (.bool true)∧w=w':=fun w=>by have:=xH (u:Int) 0 ((xs.length:Int)-1) w;rwa[show decide ((0:Int)≤(u:Int)∧(u:Int)≤(xs.length:Int)-1)=true by simp;omega]at this
 have HW: ∀w',Ext w w'→U 197 #[aH aA aB (some ⟨pb,po,none⟩) xs.length a,.slice (some ⟨b,g,none⟩) m lc] w' (Z (.bool true) w'):=fun w' hy=>
  aNk aA aB _ xs.length a b g m lc (dS aA xs.length 12 u) w' g5 g6 (by omega) (by omega) hm (aVy hb hy.sz) (fun k x hx=>(hy.cells.1 _ _ hb).trans (c k x hx)) u ((hy.cells.1 _ _ hb).trans j)
   (fun k x y hx hxy w2 hy2=>by
    have h2:=zO hg 12 u k x y hu hx hxy;have r:=aMi hg 12 u x hu (aW1 hx);have:=aFq aA aB (x:Int) (y:Int) _ xs.length a xs w2 (hS.ext (hy.trans hy2));rw[aH3 f r h2.2]at this
    exact this) (fun w2 hy2=>HV w2 (hy.trans hy2)) HI
 exact aQd aA aB pb po xs.length a xs b g m lc u (dS aA xs.length 12 u).tail (dS aA xs.length 12 u) w g5 g6 (by omega) (by omega) d hm hb o f rfl hu i (yE hg 12 u hu) c j l HW
  (fun w' hy=>(iY aA aB _ xs.length a xs w' (by omega) (hS.ext hy)).mono fun e w'' h=>h)
def nZ (aA:Int)(n:Nat):Option Nat→List Nat
 |none=> []
 |some u=>dS aA n 12 u
theorem aEe {aA:Int}{n:Nat}(hg:(aA,n)∈lD){l:List Nat}(hl: ∀x∈l,x<n)(hu:u<n):
  ((nZ aA n (dY aA l)).length=0∨(dS aA n 12 u).length<(nZ aA n (dY aA l)).length→dY aA (l++ [u])=some u)∧
  (¬((nZ aA n (dY aA l)).length=0∨(dS aA n 12 u).length<(nZ aA n (dY aA l)).length)→dY aA (l++ [u])=dY aA l):=by
 obtain⟨k1,k2,k3⟩:=mS hg hu;rw[aFy];cases h:dY aA l with
 |none=>simp[nZ,qY]
 |some v=>
  obtain⟨m1,m2,m3⟩:=mS hg (hl v ((mX aA l).2 v h));simp only[nZ,qY];constructor
  ·intro hc;rw[if_pos (by omega)]
  intro hc;rw[if_neg (by omega)]
theorem aK4 (fr:List Nat)(F:Nat)(w:World)(hg:Hid ((aA,n)∈lD))(hn:n≤12)(hF:Hid (fr.length=F))(ag:F≤12)(s:Hid (∀x∈fr,x<n))(HF:xC 195 #[aH aA aB p n a] w fun w' e w''=> ∃q c,e= .returned (.slice q F c)∧w''.ownsRow w' TI 1 (.slice q F c) F (ivs (bO fr))∧Ext w' w'')(m:Hid (∀(u:Nat),u<n→ ∀w',Ext w w'→U 196 #[aH aA aB p n a,u,(),(-1:Int)] w' (cC (bO (dS aA n 12 u)) w'))):
  U 164 #[aH aA aB p n a,(),(-1:Int)] w (cC (bO (nZ aA n (dY aA fr))) w):=by
 go_enter func164,ntmps164;have ME:=(((Mem.start w).c0 TH3 #[aA,aB,.slice p n a]).made0 TI 1 (w.heap.size+1) (by simp))
 go_wp2_with fail;refine(HF _ ME.ext).mono ?_;rintro e w1 ⟨q1,c1,rfl,t,z⟩;have M1:=(ME.call z t)
 clear ME z t;go_wp2;go_loopw [7,9] (fun v i wr=> ∃(k:Nat) (qb:OA) (l lb:Nat),k≤F∧i=I k∧v= .slice qb l lb∧l=(nZ aA n (dY aA (fr.take k))).length∧Mem w wr [aJ w TI 1 (qb) (l) (lb) (ivs (bO (nZ aA n (dY aA (fr.take k))))),aJ w TI 1 (q1) (F) (c1) (ivs (bO fr)),aI w w TH3 #[aA,aB,.slice p n a]]) (fun _ i _=>F-(intOf i).toNat)
 case atStart=>exact⟨0,some ⟨w.heap.size+1,0,none⟩,0,0,aW6 _,rfl,rfl,rfl,(M1.pick [1,0,2] (by decide) rfl)⟩
 case round=>
  clear M1;obtain⟨k,qb,l,lb,hk,rfl,rfl,hl,hM⟩:=hrel;have HM:=hM;have b:=xQ hl;clear hM hl;by_cases hlt:k<F
  ·obtain⟨u,hu⟩: ∃u,fr[k]? =some u:=⟨_,aW0 (by rw[hF.out];exact hlt)⟩
   have j:u<n:=s.out u (aW1 hu);obtain⟨gf,rfl,aj,ad⟩:=HM.so 1;have cu:wr.cell? ⟨gf,k,none⟩=some (I u):=by have:=(HM.ow 1).cellAt k (by omega);rw[this];simp[ivs,bO,hu]
   obtain⟨d,f⟩:=aEe hg.out (l:=fr.take k) (fun x hx=>s.out x (aXq hx)) j;rw[←aX hu,←b.out]at d f;obtain⟨k1,k2,k3⟩:=mS hg.out j;obtain⟨W,hW⟩: ∃W,W=(dS aA n 12 u).length:=⟨_,rfl⟩
   rw[←hW]at k1 k2 d f;have o:=xQ d;have aa:=xQ f;have g:=xQ hW;have HC:=xQ (fun w' (hx:Ext w w')=>m u j w' hx);clear hu d f hW k3;have i1:=aYp k;have i2:=aYq k F;go_wp2;refine rL (gl [gEq (.agg #[aA,aB,.slice p n a]),gEq (.slice (some ⟨gf,0,none⟩) F c1),gEq (k:Int),gEq (.pointer (some ⟨gf,k,none⟩)),gEq (u:Int),gEq (I 0),gEq (-1:Int),(fun v w'=> ∃q c,v= .slice q (W) c∧w'.ownsRow wr TI 1 (.slice q (W) c) (W) (ivs (bO (dS aA n 12 u))))]) 8 9 [(0,some 20),(1,some 21),(2,some 22),(3,some 23),(4,some 24),(5,some 25),(6,some 26),(7,some 27)] ?steps ?fin (hG:=(mQ (aW (bL _) (aW (bL _) (aW (bL _) (aW (bL _) (aW (bL _) (aW (bL _) (aW (bL _) (aW (fun v w w' ⟨q,c,he,ho⟩ hx=>⟨q,c,he,aM ho hx⟩) (pM)))))))))))
   case steps=>
    refine sC [] rfl (fun wi hx=> ?_) ?_
    ·intro K hK;have hX:=hx.of_drew;obtain⟨ab,ah,ai⟩:=((HM.bk 2).ext hX).tri;go_simp;exact hK _ _ ⟨.agg #[aA,aB,.slice p n a],rfl,rfl,Ext.refl _⟩
    refine sS0 [] (sS0 [] (sS2 [(1,some 21),(2,some 22)] ?_));refine sC [(3,some 23)] rfl (fun wi hx=> ?_) ?_
    ·intro v3 h3 K hK;obtain rfl:=h3;have hX:=hx.of_drew;have ab:wi.cell? ⟨gf,k,none⟩=some (I u):=(hX.cells.1 _ _ ad).trans cu;go_simp;exact hK _ _ ⟨I u,rfl,rfl,Ext.refl _⟩
    refine sS0 [] (sS0 [] ?_);refine sC [(0,some 20),(4,some 24),(5,some 25),(6,some 26)] rfl (fun wi hx=> ?_) StepsL.nil
    ·intro v0 h0 v4 h4 v5 h5 v6 h6 K hK;subst h0 h4 h5 h6;have hX:=hx.of_drew;go_wp2_with fail;refine(HC _ (HM.ext.trans hX)).mono ?_;rintro e w5 ⟨q5,c5,rfl,o5,af⟩;have ae:(bO (dS aA n 12 u)).length=W:=by rw[g.out];simp[bO]
     rw[ae]at o5⊢;go_simp;exact hK _ _ ⟨.slice q5 (W) c5,rfl,⟨q5,c5,rfl,bF o5 (by have:=hX.sz;simpa using this)⟩,af⟩
   case fin=>
    intro wi hx v0 h0 v1 h1 v2 h2 v3 h3 v4 h4 v5 h5 v6 h6 v7 h7;subst h0 h1 h2 h3 h4 h5 h6;obtain⟨q7,c7,rfl,y⟩:=h7;have hX:Ext wr wi:=hx.of_drew;have M1:=(show Mem w wi [aJ w TI 1 (q7) (W) (c7) (ivs (bO (dS aA n 12 u))),aJ w TI 1 (qb) (l) (lb) (ivs (bO (nZ aA n (dY aA (fr.take k))))),aJ w TI 1 (some ⟨gf,0,none⟩) (F) (c1) (ivs (bO fr)),aI w w TH3 #[aA,aB,.slice p n a]]from HM.ownNew hX y (aVz _))
    clear HM;try go_frame
    refine wpAny_ready (rs:= [8]) (by kernel_rfl) (by simp) ?_;refine AllReady.cons rfl (fun K hK=> ?_) AllReady.nil;go_simp;refine hK _ _ ?_;clear hK K;refine wpAny_done (by kernel_rfl) ?_ _;try go_frame
    clear hx hX cu y HC;by_cases h0:l=0
    ·have hn:=xQ (o (.inl h0));have t1:((l:Int)==0)=true:=by simp[h0]
     clear h0;go_wp2;go_roundw
     case rel=>exact⟨k+1,q7,W,c7,by omega,by go_num,rfl,by rw[hn.out];exact g.out,by rw[hn.out];exact(M1.pick [0,2,3] (by decide) rfl)⟩
     case measure=>simp[intOf];omega
    have t1:((l:Int)==0)=false:=by simp[h0]
    by_cases h1:W<l
    ·have hn:=xQ (o (.inr h1));go_wp2;go_roundw
     case rel=>exact⟨k+1,q7,W,c7,by omega,by go_num,rfl,by rw[hn.out];exact g.out,by rw[hn.out];exact(M1.pick [0,2,3] (by decide) rfl)⟩
     case measure=>simp[intOf];omega
    have hn:=xQ (aa (fun h=>h.elim h0 h1));go_wp2;go_roundw
    case rel=>exact⟨k+1,qb,l,lb,by omega,by go_num,rfl,by rw[hn.out];exact b.out,by rw[hn.out];exact(M1.pick [1,2,3] (by decide) rfl)⟩
    case measure=>simp[intOf];omega
  obtain rfl:F=k:=by omega
  have r:Hid (fr.take F=fr):=by show _=_;rw[aW4 (by rw[hF.out];omega)]
  go_wp2;go_ret;rw[r.out]at b HM;exact fE (by rw[aWj];exact b.out.symm) (HM.ow 0) HM.ext
theorem vE (hS:Sl w p n a 1 (ivs xs))(b:aO aA aB xs=true):
  U 164 #[aH aA aB p n a,(),(-1:Int)] w (cC (bO (nZ aA n (dY aA (bX xs)))) w):=by
 have hl:=hS.ilen;subst hl;obtain⟨g1,g2,g3,g4,g5,g6,g7⟩:=cQ (dH b);have d:(bX xs).length≤12:=by unfold bX;exact aW8 (aXc _ _) (by simp;omega)
 refine aK4 aA aB p xs.length a (bX xs) _ w (mJ b) g6 rfl d (fun x hx=>(mL hx).1) (fun w' hy=> ?_) (fun u hu w' hy=>aF6 aA aB p xs.length a u xs w' (hS.ext hy) b hu);have:=aQf aA aB p xs.length a xs w' (hS.ext hy);rw[b,if_pos rfl,aCc]at this;refine this.mono fun e w'' h=> ?_
 obtain⟨q,c,h1,h2,h3⟩:=h;rw[aWj]at h1 h2;exact⟨q,c,h1,h2,h3⟩
def tM (r:Option (List Int×List Sl2))(w:World)(e:Ending)(w':World):Prop:=
 match r with
 |none=> ∃v,e= .returned (.tuple #[v,.bool false])∧Ext w w'
 |some r=> ∃q c,e= .returned (.tuple #[.slice q r.2.length c,.bool true])∧w'.ownsRow w.heap.size TSL 2 (.slice q r.2.length c) r.2.length (r.2.flatMap aK)∧Ext w w'
theorem aO0 (HV:xB 30 #[aH aA aB p n a] w true)(HN:xC 164 #[aH aA aB p n a,(),(-1:Int)] w fun w' e w''=> ∃q c,e= .returned (.slice q 0 c)∧w''.ownsRow w' TI 1 (.slice q 0 c) 0 []∧Ext w' w''):
  U 122 #[aH aA aB p n a] w (tM none w):=by
 go_enter func122,ntmps122;have ME:=(((Mem.start w).c0 TH3 #[aA,aB,.slice p n a]).made0 TI 1 (w.heap.size+1) (by simp))
 go_wp2_with fail;refine Ω (HV _ ME.ext) fun w1 d=>?_
 have M1:=(ME.adv d)
 have g:=(M1.bk 1).tri;go_wp2_with fail;refine(HN _ M1.ext).mono ?_;rintro e w2 ⟨qw,cw,rfl,b,f⟩;have M2:=(M1.call f b)
 have HX:=xQ (M2.ext);go_wp2;exact aYw (v:= .tuple #[.slice (some ⟨w2,0,none⟩) 0 0,.bool false]) ⟨_,rfl,by have:=HX.out;exact .alloc this _⟩
theorem aKl (b:List Nat)(W:Nat)(r:List Int×List Sl2)(w:World)(h0:0<W)(HV:xB 30 #[aH aA aB p n a] w true)(HN:xC 164 #[aH aA aB p n a,(),(-1:Int)] w fun w' e w''=> ∃q c,e= .returned (.slice q W c)∧w''.ownsRow w' TI 1 (.slice q W c) W (ivs (bO b))∧Ext w' w'')(HS:Hid (∀w' q c,Ext w w'→Sl w' q W c 1 (ivs (bO b))→U 165 #[aH aA aB p n a,.slice q W c] w' (iO r.2 w'))):
  U 122 #[aH aA aB p n a] w (tM (some r) w):=by
 have t0:((W:Int)==0)=false:=by simp;omega
 go_enter func122,ntmps122;have ME:=(((Mem.start w).c0 TH3 #[aA,aB,.slice p n a]).made0 TI 1 (w.heap.size+1) (by simp))
 go_wp2_with fail;refine Ω (HV _ ME.ext) fun w1 g=>?_
 have M1:=(ME.adv g)
 have d:=(M1.bk 1).tri;go_wp2_with fail;refine(HN _ M1.ext).mono ?_;rintro e w2 ⟨qw,cw,rfl,f,h⟩;have M2:=(M1.call h f)
 have d:=(M2.bk 2).tri;go_wp2_with fail;have HH:=xQ (HS _ qw cw M2.ext (M2.sq 0));refine HH.out.mono ?_;rintro e w9 ⟨q9,c9,rfl,o9,i⟩;have HX:=xQ (M2.ext);go_wp2;exact aYw (v:= .tuple #[.slice q9 r.2.length c9,.bool true]) ⟨q9,c9,rfl,bF o9 HX.out.sz,HX.out.trans i⟩
theorem aDp (hS:Sl w p n a 1 (ivs xs))(b:aO aA aB xs=true):
  U 122 #[aH aA aB p n a] w (tM (kI aA xs) w):=by
 have hl:=hS.ilen;subst hl;have hg:=mJ b;have HV: ∀w',Ext w w'→U 30 #[aH aA aB p xs.length a] w' (Z (.bool true) w'):=fun w' hy=>by have:=iJ aA aB p xs.length a xs w' (hS.ext hy);rwa[b]at this
 unfold kI;cases hn:dY aA (bX xs)with
 |none=>refine aO0 aA aB p xs.length a w HV (fun w' hy=> ?_);have:=vE aA aB p xs.length a xs w' (hS.ext hy) b;rw[hn]at this;exact this
 |some u=>
  obtain⟨hu,d⟩:=mL ((mX aA _).2 u hn);obtain⟨k1,k2,k3⟩:=mS hg hu;refine aKl aA aB p xs.length a (dS aA xs.length 12 u) _ (cT xs u (dS aA xs.length 12 u).tail) w k1 HV (fun w' hy=> ?_) (fun w' q c hy hL=>aC8 aA aB p xs.length a xs q _ c u w' (hS.ext hy) b hu d hL);have:=vE aA aB p xs.length a xs w' (hS.ext hy) b;rw[hn]at this;refine this.mono fun e w'' h=> ?_
  obtain⟨q,c,h1,h2,h3⟩:=h;simp only[nZ,aWj]at h1 h2;exact⟨q,c,h1,h2,h3⟩
def cZ (aA aB:Int)(xs:List Int)(id:Int):List Int×Int:=
 match oQ aA aB xs id with
 |none=>(xs,-1)
 |some r=>(r.1,(r.2:Int))
theorem aFa (b:Hid (xs.length=n))(HV:xB 30 #[aH aA aB p n a] w true)(HC:xC 122 #[aH aA aB p n a] w fun w' e w''=> ∃v,e= .returned (.tuple #[v,.bool false])∧Ext w' w'')(HL:xC 87 #[aH aA aB p n a] w fun w' e w''=> ∃q c,e= .returned (aH aA aB q n c)∧w''.ownsRow w' TI 1 (.slice q n c) n (ivs xs)∧Ext w' w''):
  U 88 #[aH aA aB p n a,id] w (dK aA aB xs (-1) w):=by
 go_enter func88,ntmps88;go_wp2_with fail;refine Ω (HV _ (Mem.b2 w).ext) fun w1 h=>?_
 have M1:=((Mem.b2 w).adv h)
 have d:=(M1.bk 1).tri;go_wp2_with fail;refine(HC _ M1.ext).mono ?_;rintro e w2 ⟨v,rfl,i⟩;have M2:=(M1.adv i)
 have d:=(M2.bk 1).tri;go_wp2_with fail;refine(HL _ M2.ext).mono ?_;rintro e w3 ⟨q0,c0,rfl,f,j⟩;have M3:=(M2.call j f)
 have z_:=(M3.bk 1).trif;go_wp2;have M4:=(((M3.st 1 0 (I aA)).st 1 1 (I aB)).st 1 2 (.slice q0 n c0))
 generalize g:World.setCell _ _ _=wz;rw[g]at M4;have k:=(M4.bk 1).tri;exact aYw (v:= .tuple #[.agg #[aA,aB,.slice q0 n c0],(-1:Int)]) (fY b.out (M4.ow 0) M4.ext)
theorem aJz (d:Hid (xs.length=n))(HV:xB 30 #[aH aA aB p n a] w true)(HC:xC 122 #[aH aA aB p n a] w fun w' e w''=> ∃q c,e= .returned (.tuple #[.slice q K c,.bool true])∧w''.ownsRow w' TSL 2 (.slice q K c) K (sl.flatMap aK)∧Ext w' w'')(HR:Hid (∀w' q c,Ext w w'→Sl w' q K c 2 (sl.flatMap aK)→U 123 #[aH aA aB p n a,.slice q K c] w' (aYy TI 1 n (ivs ys) w' fun q c=> .tuple #[aH aA aB q n c,K])))(HP:Hid (∀w' q c,Ext w w'→Sl w' q n c 1 (ivs ys)→U 124 #[aH aA aB q n c,(),id] w' (aYy TI 1 n (ivs zs) w' fun q c=> .tuple #[aH aA aB q n c,.bool false])))(HL:xC 87 #[aH aA aB p n a] w fun w' e w''=> ∃q c,e= .returned (aH aA aB q n c)∧w''.ownsRow w' TI 1 (.slice q n c) n (ivs xs)∧Ext w' w''):
  U 88 #[aH aA aB p n a,id] w (dK aA aB xs (-1) w):=by
 go_enter func88,ntmps88;go_wp2_with fail;refine Ω (HV _ (Mem.b2 w).ext) fun w1 k=>?_
 have M1:=((Mem.b2 w).adv k)
 have b:=(M1.bk 1).tri;go_wp2_with fail;refine(HC _ M1.ext).mono ?_;rintro e w2 ⟨qs,cs,rfl,f,l⟩;have M2:=(M1.call l f)
 have b:=(M2.bk 2).tri;go_wp2_with fail;refine(HR _ qs cs M2.ext (M2.sq 0)).mono ?_;rintro e w3 ⟨q1,c1,rfl,g,m⟩;have M3:=(M2.call m g)
 go_wp2_with fail;refine(HP _ q1 c1 (M3.c0 TH3 #[aA,aB,.slice q1 n c1]).ext ((M3.c0 TH3 #[aA,aB,.slice q1 n c1]).sq 1)).mono ?_;rintro e w4 ⟨q2,c2,rfl,h,o⟩;have M4:=((M3.c0 TH3 #[aA,aB,.slice q1 n c1]).call o h)
 have s:=M4.hi 5;have b:=(M4.bk 5).tri;go_wp2_with fail;refine(HL _ (M4.c0 TH3 #[aA,aB,.slice q2 n c2]).ext).mono ?_;rintro e w5 ⟨q0,c0,rfl,i,r⟩;have M5:=((M4.c0 TH3 #[aA,aB,.slice q2 n c2]).call r i)
 have z_:=(M5.bk 6).trif;go_wp2;have M6:=(((M5.st 6 0 (I aA)).st 6 1 (I aB)).st 6 2 (.slice q0 n c0))
 generalize j:World.setCell _ _ _=wz;rw[j]at M6;have t:=(M6.bk 6).tri;exact aYw (v:= .tuple #[.agg #[aA,aB,.slice q0 n c0],(-1:Int)]) (fY d.out (M6.ow 0) M6.ext)
theorem aHk (b:Hid (zs.length=n))(HV:xB 30 #[aH aA aB p n a] w true)(HC:xC 122 #[aH aA aB p n a] w fun w' e w''=> ∃q c,e= .returned (.tuple #[.slice q K c,.bool true])∧w''.ownsRow w' TSL 2 (.slice q K c) K (sl.flatMap aK)∧Ext w' w'')(HR:Hid (∀w' q c,Ext w w'→Sl w' q K c 2 (sl.flatMap aK)→U 123 #[aH aA aB p n a,.slice q K c] w' (aYy TI 1 n (ivs ys) w' fun q c=> .tuple #[aH aA aB q n c,K])))(HP:Hid (∀w' q c,Ext w w'→Sl w' q n c 1 (ivs ys)→U 124 #[aH aA aB q n c,(),id] w' (aYy TI 1 n (ivs zs) w' fun q c=> .tuple #[aH aA aB q n c,.bool true]))):
  U 88 #[aH aA aB p n a,id] w (dK aA aB zs (K:Int) w):=by
 go_enter func88,ntmps88;go_wp2_with fail;refine Ω (HV _ (Mem.b2 w).ext) fun w1 j=>?_
 have M1:=((Mem.b2 w).adv j)
 have d:=(M1.bk 1).tri;go_wp2_with fail;refine(HC _ M1.ext).mono ?_;rintro e w2 ⟨qs,cs,rfl,f,k⟩;have M2:=(M1.call k f)
 have d:=(M2.bk 2).tri;go_wp2_with fail;refine(HR _ qs cs M2.ext (M2.sq 0)).mono ?_;rintro e w3 ⟨q1,c1,rfl,g,l⟩;have M3:=(M2.call l g)
 go_wp2_with fail;refine(HP _ q1 c1 (M3.c0 TH3 #[aA,aB,.slice q1 n c1]).ext ((M3.c0 TH3 #[aA,aB,.slice q1 n c1]).sq 1)).mono ?_;rintro e w4 ⟨q2,c2,rfl,h,m⟩;have M4:=((M3.c0 TH3 #[aA,aB,.slice q1 n c1]).call m h)
 have o:=M4.hi 4;have z_:=(M4.bk 4).trif;go_wp2;have M5:=((((M4.st 4 0 (I aA)).st 4 1 (I aB)).st 4 2 (.slice q2 n c2)).bn TH3 #[aA,aB,.slice q2 n c2] w4)
 generalize i:World.alloc _ _=wz;rw[i]at M5;have r:=(M5.bk 5).tri;exact aYw (v:= .tuple #[.agg #[aA,aB,.slice q2 n c2],K]) (fY b.out (M5.ow 1) M5.ext)
theorem pB (id:Int):(dM aA aB xs id).1.length=xs.length:=by unfold dM;split<;>simp
theorem aHg (hS:Sl w p n a 1 (ivs xs))(b:aO aA aB xs=true):
  U 88 #[aH aA aB p n a,id] w (dK aA aB (cZ aA aB xs id).1 (cZ aA aB xs id).2 w):=by
 have hl:=hS.ilen;subst hl;obtain⟨g1,g2,g3,g4,g5,g6,g7⟩:=cQ (dH b);have HV: ∀w',Ext w w'→U 30 #[aH aA aB p xs.length a] w' (Z (.bool true) w'):=fun w' hy=>by have:=iJ aA aB p xs.length a xs w' (hS.ext hy);rwa[b]at this
 have HL:=fun(w':World) (hy:Ext w w')=>iY aA aB p xs.length a xs w' (by omega) (hS.ext hy)
 have HC:=fun(w':World) (hy:Ext w w')=>aDp aA aB p xs.length a xs w' (hS.ext hy) b
 cases hr:kI aA xs with
 |none=>
  have e:cZ aA aB xs id=(xs,-1):=by unfold cZ oQ;rw[hr]
  rw[e];rw[hr]at HC;exact aFa aA aB id p xs.length a xs w rfl HV HC HL
 |some r=>
  rw[hr]at HC;obtain⟨f1,f2,f3,f4,f5⟩:=tG b hr;have HR: ∀w' q c,Ext w w'→Sl w' q r.2.length c 2 (r.2.flatMap aK)→U 123 #[aH aA aB p xs.length a,.slice q r.2.length c] w' (aYy TI 1 xs.length (ivs r.1) w' fun q c=> .tuple #[aH aA aB q xs.length c,(r.2.length:Int)]):=fun w' q c hy hL=>by have:=wQ aA aB p xs.length a xs q r.2.length c r.2 w' (by omega) (hS.ext hy) hL b;rw[f1]at this;unfold dK at this;dsimp only at this;rw[f3]at this;exact this
  have HP: ∀w' q c,Ext w w'→Sl w' q xs.length c 1 (ivs r.1)→U 124 #[aH aA aB q xs.length c,(),id] w' (aYy TI 1 xs.length (ivs (dM aA aB r.1 id).1) w' fun q c=> .tuple #[aH aA aB q xs.length c,.bool (dM aA aB r.1 id).2]):=fun w' q c hy hL=>by have:=aJ7 aA aB id q xs.length c r.1 w' hL f2;unfold dL at this;rw[pB,f3]at this;exact this
  cases hb:(dM aA aB r.1 id).2 with
  |false=>
   have e:cZ aA aB xs id=(xs,-1):=by simp[cZ,oQ,hr,hb]
   rw[e];rw[hb]at HP;exact aJz aA aB id p xs.length a r.2.length xs r.1 (dM aA aB r.1 id).1 r.2 w rfl HV HC HR HP HL
  |true=>
   have e:cZ aA aB xs id=((dM aA aB r.1 id).1,(r.2.length:Int)):=by simp[cZ,oQ,hr,hb]
   rw[e];rw[hb]at HP;exact aHk aA aB id p xs.length a r.2.length r.1 (dM aA aB r.1 id).1 r.2 w (show _=_ by rw[pB,f3]) HV HC HR HP
def jQ:Nat→Nat
 |0=>0
 |n+1=>(n+1)%2+jQ ((n+1)/2)
decreasing_by omega
theorem wZ:jQ n=n%2+jQ (n/2):=by
 cases n with
 |zero=>rw[jQ]
 |succ n=>rw[jQ]
theorem aAt: ∀(f S:Nat),S.testBit f=false→ ∀k,(S+2 ^ f).testBit k=(S.testBit k || decide (k=f)):=by
 intro f;induction f with
 |zero=>
  intro S h k;rw[aXu]at h;have h0:S%2=0:=by simp at h;omega
  cases k with
  |zero=>rw[aXu,aXu];simp;omega
  |succ k=>rw[aY2,aY2,show(S+2 ^ 0)/2=S/2 by simp;omega];simp
 |succ f ih=>
  intro S h k;rw[aY2]at h;have e:(S+2 ^ (f+1))/2=S/2+2 ^ f:=by rw[Nat.pow_succ];omega
  cases k with
  |zero=>rw[aXu,aXu];simp[Nat.pow_succ]<;>omega
  |succ k=>rw[aY2,aY2,e,ih _ h];simp
theorem aBm: ∀(f S:Nat),S.testBit f=false→jQ (S+2 ^ f)=jQ S+1:=by
 intro f;induction f with
 |zero=>
  intro S h;rw[aXu]at h;have h0:S%2=0:=by simp at h;omega
  rw[wZ (S+2 ^ 0),wZ S,show(S+2 ^ 0)/2=S/2 by simp;omega];simp;omega
 |succ f ih=>
  intro S h;rw[aY2]at h;have e:(S+2 ^ (f+1))/2=S/2+2 ^ f:=by rw[Nat.pow_succ];omega
  rw[wZ (S+2 ^ (f+1)),wZ S,e,ih _ h];have:(S+2 ^ (f+1))%2=S%2:=by rw[Nat.pow_succ];omega
  omega
theorem aPg: ∀(t S:Nat),S.testBit t=true→ ∃R,S=R+2 ^ t∧R.testBit t=false:=by
 intro t;induction t with
 |zero=>
  intro S h;rw[aXu]at h;have h0:S%2=1:=by simpa using h
  exact⟨S-1,by simp;omega,by rw[aXu];simp;omega⟩
 |succ t ih=>intro S h;rw[aY2]at h;obtain⟨R,h1,h2⟩:=ih _ h;refine⟨2*R+S%2,by rw[Nat.pow_succ];omega,?_⟩;rw[aY2,show(2*R+S%2)/2=R by omega];exact h2
theorem aAs (h:S.testBit t=true):2 ^ t≤S∧(∀k,(S-2 ^ t).testBit k=(S.testBit k&& !decide (k=t)))∧jQ S=jQ (S-2 ^ t)+1:=by
 obtain⟨R,rfl,h2⟩:=aPg t S h;rw[aY7];refine⟨Nat.le_add_left _ _,fun k=> ?_,aBm _ _ h2⟩;rw[aAt _ _ h2];by_cases hk:k=t
 ·subst hk;simp[h2]
 simp[hk]
def dP (S f t:Nat):Nat:=S-2 ^ t+2 ^ f
theorem fZ (ht:S.testBit t=true)(hf:S.testBit f=false)(k:Nat):(dP S f t).testBit k=(decide (k=f) || (S.testBit k&& !decide (k=t))):=by obtain⟨a,b,c⟩:=aAs ht;unfold dP;rw[aAt _ _ (by rw[b,hf];rfl),b];cases S.testBit k<;>cases decide (k=f)<;>cases decide (k=t)<;>rfl
theorem aL5 (ht:S.testBit t=true)(hf:S.testBit f=false):jQ (dP S f t)=jQ S:=by obtain⟨a,b,c⟩:=aAs ht;unfold dP;rw[aBm _ _ (by rw[b,hf];rfl),c]
theorem aN7 {a b:Nat}(h: ∀k,a.testBit k=b.testBit k):a=b:=aYb h
theorem aTs {n a:Nat}(h: ∀k,n≤k→a.testBit k=false):a<2 ^ n:=Nat.lt_pow_two_of_testBit a h
theorem zJ {n a:Nat}(h:a<2 ^ n)(hk:n≤k):a.testBit k=false:=Nat.testBit_lt_two_pow (aVy h (aWi (by omega) hk))
theorem xD {n:Nat}(hS:S<2 ^ n)(a:f<n)(ht:S.testBit t=true)(hf:S.testBit f=false):dP S f t<2 ^ n:=by
 refine aTs fun k hk=> ?_
 rw[fZ ht hf,zJ hS hk];have:k≠f:=by omega
 simp[this]
theorem aL6 (ht:S.testBit t=true)(hf:S.testBit f=false):dP (dP S f t) t f=S:=by
 have a:f≠t:=fun e=>by subst e;rw[ht]at hf;cases hf
 refine aN7 fun k=> ?_
 rw[fZ (by rw[fZ ht hf];simp) (by rw[fZ ht hf];simp[Ne.symm a]),fZ ht hf];by_cases h1:k=t
 ·subst h1;simp[ht]
 by_cases h2:k=f
 ·subst h2;simp[h1,hf]
 simp[h1,h2]
def lI (p:Nat→Bool):Nat→Nat
 |0=>0
 |k+1=>lI p k+(if p k then 2 ^ k else 0)
theorem tS (p:Nat→Bool)(k:Nat):lI p k<2 ^ k:=by
 induction k with
 |zero=>simp[lI]
 |succ k ih=>unfold lI;rw[Nat.pow_succ];split<;>omega
theorem aQv (p:Nat→Bool)(k j:Nat):(lI p k).testBit j=(decide (j<k)&&p j):=by
 induction k with
 |zero=>simp[lI]
 |succ k ih=>
  have hk:(lI p k).testBit k=false:=zJ (tS p k) (aVz _);unfold lI;cases hp:p k with
  |false=>
   simp only[Bool.false_eq_true,if_false,Nat.add_zero];rw[ih];by_cases h:j=k
   ·subst h;simp[hp]
   have:(j<k+1)↔j<k:=by omega
   simp[this]
  |true=>
   simp only[if_true];rw[aAt _ _ hk,ih];by_cases h:j=k
   ·subst h;simp[hp]
   have:(j<k+1)↔j<k:=by omega
   simp[this,h]
theorem aO3 (p:Nat→Bool)(k:Nat):jQ (lI p k)=((List.range k).filter p).length:=by
 induction k with
 |zero=>simp[lI,jQ]
 |succ k ih=>
  have hk:(lI p k).testBit k=false:=zJ (tS p k) (aVz _);rw[aXj,aX8,aW5,←ih,show lI p (k+1)=lI p k+(if p k then 2 ^ k else 0)from rfl];cases hp:p k with
  |false=>simp[hp]
  |true=>simp only[if_true];rw[aBm _ _ hk];simp[hp]
def aP (xs:List Int):Nat:=lI (dQ xs) xs.length
theorem fV (k:Nat):(aP xs).testBit k=dQ xs k:=by
 unfold aP;rw[aQv];by_cases h:k<xs.length
 ·simp[h]
 have:dQ xs k=false:=by unfold dQ;rw[aXg (by omega)];rfl
 rw[this];simp
theorem rJ:aP xs<2 ^ xs.length:=tS _ _
theorem aGw:jQ (aP xs)=(bX xs).length:=aO3 _ _
section
def fN (aA:Int)(n S:Nat):List (Nat×Nat):=(List.range n).flatMap fun f=>if S.testBit f then []else((aU aA n f).filter (fun t=>S.testBit t)).map (fun t=>(f,t))
theorem iG {aA:Int}{n:Nat}{e:Nat×Nat}:e∈fN aA n S↔e.1<n∧e.2<n∧e.2∈aU aA n e.1∧S.testBit e.1=false∧S.testBit e.2=true:=by
 obtain⟨f,t⟩:=e;simp only[fN,List.mem_flatMap,aWm];constructor
 ·rintro⟨a,ha,hm⟩;cases hb:S.testBit a with
  |true=>rw[hb]at hm;simp at hm
  |false=>rw[hb]at hm;simp only[Bool.false_eq_true,if_false,List.mem_map,aWy]at hm;obtain⟨x,⟨h1,h2⟩,h3⟩:=hm;injection h3 with h3 h4;subst h3 h4;exact⟨ha,(cH.1 h1).1,h1,hb,h2⟩
 rintro⟨h1,h2,h3,h4,h5⟩;refine⟨f,h1,?_⟩;rw[h4];simp only[Bool.false_eq_true,if_false,List.mem_map,aWy];exact⟨t,⟨h3,h5⟩,rfl⟩
def eL (c f t:Nat):Nat:=if f=c then t else c
def jJ (M c S f t:Nat):Nat:=eL c f t*M+dP S f t
def rQ (aA:Int)(n M s:Nat):List Nat:=(fN aA n (s%M)).map (fun e=>jJ M (s/M) (s%M) e.1 e.2)
def aCv (aA:Int)(n M s:Nat):List Nat:=(List.range n).flatMap fun h=>if(s%M).testBit h then((aU aA n h).filter (fun f=> !(s%M).testBit f)).map (fun f=>jJ M (s/M) (s%M) f h)else []
def wE (aA:Int)(n M s v:Nat):Prop:= ∃f t,f<n∧t<n∧t∈aU aA n f∧(s%M).testBit f=false∧(s%M).testBit t=true∧v=jJ M (s/M) (s%M) f t
theorem tK {aA:Int}{n:Nat}:v∈rQ aA n M s↔wE aA n M s v:=by
 unfold rQ wE;rw[List.mem_map];constructor
 ·rintro⟨⟨f,t⟩,h,rfl⟩;obtain⟨h1,h2,h3,h4,h5⟩:=iG.1 h;exact⟨f,t,h1,h2,h3,h4,h5,rfl⟩
 rintro⟨f,t,h1,h2,h3,h4,h5,rfl⟩;exact⟨(f,t),iG.2 ⟨h1,h2,h3,h4,h5⟩,rfl⟩
theorem qJ {aA:Int}{n:Nat}:v∈aCv aA n M s↔wE aA n M s v:=by
 unfold aCv wE;rw[List.mem_flatMap];constructor
 ·rintro⟨h,hh,hm⟩;rw[aWm]at hh;cases hb:(s%M).testBit h with
  |false=>rw[hb]at hm;simp at hm
  |true=>rw[hb]at hm;simp only[if_true,List.mem_map,aWy,Bool.not_eq_true']at hm;obtain⟨f,⟨h1,h2⟩,rfl⟩:=hm;exact⟨f,h,(cH.1 h1).1,hh,jD hh h1,h2,hb,rfl⟩
 rintro⟨f,t,h1,h2,h3,h4,h5,rfl⟩;refine⟨t,aWm.2 h2,?_⟩;rw[h5];simp only[if_true,List.mem_map,aWy,Bool.not_eq_true'];exact⟨f,⟨jD h1 h3,h4⟩,rfl⟩
structure aDr (n M s:Nat):Prop where
 car:s/M<n
 set:s%M<2 ^ n
 occ:(s%M).testBit (s/M)=false
theorem oL (h:S<M):(c*M+S)/M=c:=by rw[Nat.mul_comm,Nat.mul_add_div (by omega),Nat.div_eq_of_lt h,Nat.add_zero]
theorem jU (h:S<M):(c*M+S)%M=S:=by rw[Nat.mul_comm,Nat.mul_add_mod,Nat.mod_eq_of_lt h]
theorem aJn {n:Nat}(hc:c<n)(ht:t<n):eL c f t<n:=by unfold eL;split<;>omega
theorem nW {aA:Int}{n:Nat}(hM:2 ^ n≤M)(hS:s%M<2 ^ n)(h:wE aA n M s v): ∃f t,f<n∧t<n∧t∈aU aA n f∧(s%M).testBit f=false∧(s%M).testBit t=true∧v/M=eL (s/M) f t∧v%M=dP (s%M) f t∧dP (s%M) f t<2 ^ n:=by obtain⟨f,t,h1,h2,h3,h4,h5,rfl⟩:=h;have hl:=xD hS h1 h5 h4;exact⟨f,t,h1,h2,h3,h4,h5,oL (by omega),jU (by omega),hl⟩
theorem aN3 {aA:Int}{n:Nat}(hM:2 ^ n≤M)(hc:s/M<n)(hS:s%M<2 ^ n)(h:wE aA n M s v):v/M<n∧v%M<2 ^ n:=by obtain⟨f,t,h1,h2,h3,h4,h5,h6,h7,h8⟩:=nW hM hS h;exact⟨by rw[h6];exact aJn hc h2,by rw[h7];exact h8⟩
theorem xW {aA:Int}{n:Nat}(hM:2 ^ n≤M)(hs:aDr n M s)(h:wE aA n M s v):aDr n M v:=by
 obtain⟨a,b⟩:=aN3 hM hs.car hs.set h;obtain⟨f,t,h1,h2,h3,h4,h5,h6,h7,h8⟩:=nW hM hs.set h;refine⟨a,b,?_⟩;rw[h6,h7,fZ h5 h4];unfold eL;have c:f≠t:=fun e=>by subst e;rw[h5]at h4;cases h4
 split
 ·simp[Ne.symm c]
 have:=hs.occ;have h9:s/M≠f:=fun e=>by omega
 simp[this,h9]
theorem uH {aA:Int}{n:Nat}(hM:2 ^ n≤M)(hS:s%M<2 ^ n)(h:wE aA n M s v):jQ (v%M)=jQ (s%M):=by obtain⟨f,t,h1,h2,h3,h4,h5,h6,h7,h8⟩:=nW hM hS h;rw[h7,aL5 h5 h4]
theorem aEw {aA:Int}{n:Nat}(hM:2 ^ n≤M)(hs:aDr n M s)(h:wE aA n M s v):wE aA n M v s:=by
 obtain⟨f,t,h1,h2,h3,h4,h5,h6,h7,h8⟩:=nW hM hs.set h;have b:f≠t:=fun e=>by subst e;rw[h5]at h4;cases h4
 refine⟨t,f,h2,h1,jD h1 h3,by rw[h7,fZ h5 h4];simp[Ne.symm b],by rw[h7,fZ h5 h4];simp,?_⟩;have a:eL (v/M) t f=s/M:=by
  rw[h6];unfold eL;by_cases hf:f=s/M
  ·simp[hf]
  have ht: ¬t=s/M:=fun e=>by have:=hs.occ;rw[←e,h5]at this;cases this
  simp[hf,ht]
 unfold jJ;rw[a,h7,aL6 h5 h4];rw[Nat.mul_comm];exact(aY5 s M).symm
def aUt:List ((Int×Nat)×List Nat):= [
 ((2,4),[0,0,0,0,1,0,2,3,1,2,0,3,5,4,4,0]),
 ((2,6),[0,0,0,0,0,0,1,0,2,3,3,4,1,2,0,3,5,4,5,4,4,0,5,6,7,8,6,7,0,8,9,8,8,7,9,0]),
 ((3,6),[0,0,0,0,0,0,1,0,5,2,3,4,7,6,0,8,7,8,1,2,3,0,3,4,5,4,5,4,0,6,9,8,9,8,7,0]),
 ((3,9),[0,0,0,0,0,0,0,0,0,1,0,5,2,3,4,3,4,5,7,6,0,8,7,8,9,8,9,1,2,3,0,3,4,5,4,5,5,4,5,4,0,6,5,6,7,9,8,9,8,7,0,9,8,9,7,8,9,6,7,8,0,8,9,9,8,9,8,7,8,9,0,9,13,12,11,12,11,10,11,10,0]),
 ((4,8),[0,0,0,0,0,0,0,0,1,0,5,6,2,3,4,5,7,6,0,10,8,7,8,9,13,12,11,0,14,13,12,13,1,2,3,4,0,3,4,5,5,4,5,6,4,0,6,7,9,8,9,10,8,7,0,11,15,14,13,14,14,13,12,0]),
 ((4,12),[0,0,0,0,0,0,0,0,0,0,0,0,1,0,5,6,2,3,4,5,3,4,5,6,7,6,0,10,8,7,8,9,9,8,9,10,13,12,11,0,14,13,12,13,15,14,13,14,1,2,3,4,0,3,4,5,5,4,5,6,5,4,5,6,4,0,6,7,5,6,7,8,9,8,9,10,8,7,0,11,9,8,9,10,15,14,13,14,14,13,12,0,15,14,13,14,7,8,9,10,6,7,8,9,0,8,9,10,9,8,9,10,8,7,8,9,9,0,9,10,13,12,11,12,12,11,10,11,11,10,0,12,17,16,15,16,16,15,14,15,15,14,13,0])]
def pot (aA:Int)(n c h:Nat):Nat:=((aUt.find? (fun g=>g.1==(aA,n))).map (fun g=>g.2.getD (c*n+h) 0)).getD 0
def aVl (aA:Int)(n:Nat):Bool:=(List.range n).all fun c=>(List.range n).all fun h=>decide (pot aA n c h≤60)&&(c==0 || c==h || (aU aA n h).any fun t=>decide (pot aA n (if t=c then h else c) t<pot aA n c h))
theorem aTn:(lD.all fun g=>aVl g.1 g.2)=true:=by decide+kernel
theorem aBl {aA:Int}{n h:Nat}(hg:(aA,n)∈lD)(hc:c<n)(hh:h<n):pot aA n c h≤60∧(c≠0→c≠h→ ∃t,t∈aU aA n h∧pot aA n (if t=c then h else c) t<pot aA n c h):=by
 have h1:=aWo.1 aTn _ hg;have h2:=aWo.1 (aWo.1 h1 c (aWm.2 hc)) h (aWm.2 hh);simp only[aWc,Bool.or_eq_true,decide_eq_true_eq,beq_iff_eq,List.any_eq_true]at h2;refine⟨h2.1,fun a b=> ?_⟩;rcases h2.2 with(h3|h3)|⟨t,h3,h4⟩
 ·exact absurd h3 a
 ·exact absurd h3 b
 exact⟨t,h3,h4⟩
def aB1 (n many:Nat):List Nat:=(List.range (2 ^ n)).filter (fun s=> !s.testBit 0&&decide (jQ s=many))
theorem lK {n many:Nat}:s∈aB1 n many↔s<2 ^ n∧s.testBit 0=false∧jQ s=many:=by simp[aB1]
section
variable {aA:Int} {n many:Nat} {D:List Int}
abbrev MM:Nat:=4096
abbrev NN:Nat:=49152
abbrev gO (aA:Int)(n many:Nat)(D:List Int):Prop:=yD (aCv aA n MM) (aB1 n many) NN D
theorem kO (hn:n≤12):2 ^ n≤MM:=aWi (n:=2) (by omega) hn
theorem sP (hn:n≤12){s:Nat}(h:aDr n MM s):s<NN:=by have h1:=h.car;have h2:=aY5 s MM;have h3:s%MM<MM:=Nat.mod_lt _ (by decide);show s<49152;have:s/4096<n:=h1;omega
theorem aUw {s:Nat}(h:s<NN):s/MM<12:=by have:s<49152:=h;show s/4096<12;omega
theorem aN4 (c:4≤n)(hn:n≤12)(hD:gO aA n many D): ∀(k s:Nat),s<NN→D.getD s 0=k→aDr n MM s∧jQ (s%MM)=many:=by
 intro k;induction k with
 |zero=>intro s hs h0;have hm:=(hD.zero s hs).1 (by omega);obtain⟨h1,h2,h3⟩:=lK.1 hm;have h4:=kO hn;have h5:s%MM=s:=Nat.mod_eq_of_lt (by omega);have h6:s/MM=0:=Nat.div_eq_of_lt (by omega);exact⟨⟨by rw[h6];omega,by rw[h5];exact h1,by rw[h5,h6];exact h2⟩,by rw[h5];exact h3⟩
 |succ k ih=>intro s hs h0;obtain⟨u,hu,hv,hd⟩:=hD.back s hs (by omega);obtain⟨a,b⟩:=ih u hu (by omega);have he:=qJ.1 hv;exact⟨xW (kO hn) a he,by rw[uH (kO hn) a.set he];exact b⟩
theorem aF0 (b:4≤n)(hn:n≤12)(hD:gO aA n many D){s v:Nat}(hs:aDr n MM s)(he:wE aA n MM s v):(0≤D.getD s 0↔0≤D.getD v 0)∧(0≤D.getD s 0→D.getD s 0≤D.getD v 0+1∧D.getD v 0≤D.getD s 0+1):=by
 have hv:=xW (kO hn) hs he;have a:=aEw (kO hn) hs he;have l1:=sP hn hs;have l2:=sP hn hv;have e1:=fun h=>hD.edge s v l1 h (qJ.2 he)
 have e2:=fun h=>hD.edge v s l2 h (qJ.2 a)
 exact⟨⟨fun h=>(e1 h).1,fun h=>(e2 h).1⟩,fun h=>⟨(e2 (e1 h).1).2,(e1 h).2⟩⟩
theorem aSr (hg:(aA,n)∈lD)(i:4≤n)(hn:n≤12)(hD:gO aA n many D): ∀(P s h:Nat),pot aA n (s/MM) h≤P→aDr n MM s→jQ (s%MM)=many→(s%MM).testBit h=true→0≤D.getD s 0∧D.getD s 0≤pot aA n (s/MM) h:=by
 intro P;induction P with
 |zero=>
  intro s h hP hs hm hh;by_cases h0:s/MM=0
  ·have h1:s=s%MM:=by have:=aY5 s MM;rw[h0]at this;omega
   have:D.getD s 0=0:=(hD.zero s (sP hn hs)).2 (lK.2 ⟨by rw[h1];exact hs.set,by rw[h1,←h0];exact hs.occ,by rw[h1];exact hm⟩);rw[this];exact⟨Int.le_refl _,by omega⟩
  have c:h<n:=by
   rcases Nat.lt_or_ge h n with h1|h1
   ·exact h1
   rw[zJ hs.set h1]at hh;cases hh
  obtain⟨t,ht,d⟩:=(aBl hg hs.car c).2 h0 (fun e=>by rw[←e,hs.occ]at hh;cases hh);omega
 |succ P ih=>
  intro s h hP hs hm hh;by_cases h0:s/MM=0
  ·have h1:s=s%MM:=by have:=aY5 s MM;rw[h0]at this;omega
   have:D.getD s 0=0:=(hD.zero s (sP hn hs)).2 (lK.2 ⟨by rw[h1];exact hs.set,by rw[h1,←h0];exact hs.occ,by rw[h1];exact hm⟩);rw[this];exact⟨Int.le_refl _,by omega⟩
  have c:h<n:=by
   rcases Nat.lt_or_ge h n with h1|h1
   ·exact h1
   rw[zJ hs.set h1]at hh;cases hh
  obtain⟨t,ht,d⟩:=(aBl hg hs.car c).2 h0 (fun e=>by rw[←e,hs.occ]at hh;cases hh);have g:=(cH.1 ht).1;cases hb:(s%MM).testBit t with
  |true=>
   have f:t≠s/MM:=fun e=>by rw[e,hs.occ]at hb;cases hb
   rw[if_neg f]at d;obtain⟨a,b⟩:=ih s t (by omega) hs hm hb;exact⟨a,by omega⟩
  |false=>
   have he:wE aA n MM s (jJ MM (s/MM) (s%MM) t h):=⟨t,h,g,c,jD c ht,hb,hh,rfl⟩
   obtain⟨f',t',k1,k2,k3,k4,k5,k6,k7,k8⟩:=nW (kO hn) hs.set he;have hl:=xD hs.set g hh hb;have e1:jJ MM (s/MM) (s%MM) t h/MM=eL (s/MM) t h:=oL (aVy hl (kO hn));have e2:jJ MM (s/MM) (s%MM) t h%MM=dP (s%MM) t h:=jU (aVy hl (kO hn));have j:=xW (kO hn) hs he;have k:=uH (kO hn) hs.set he;have f:t≠h:=fun e=>by subst e;rw[hh]at hb;cases hb
   have hp:pot aA n (jJ MM (s/MM) (s%MM) t h/MM) t=pot aA n (if t=s/MM then h else s/MM) t:=by rw[e1];rfl
   obtain⟨a,b⟩:=ih _ t (by rw[hp];omega) j (by rw[k];exact hm) (by rw[e2,fZ hh hb];simp);rw[hp]at b;obtain⟨c1,c2⟩:=aF0 i hn hD hs he;have c3:=c1.2 a;have:=c2 c3;exact⟨c3,by omega⟩
theorem aUb {adj:Nat→List Nat}{src:List Nat}{N:Nat}{D E:List Int}(hD:yD adj src N D)(hE:yD adj src N E): ∀(k v:Nat),v<N→D.getD v 0=k→0≤E.getD v 0∧E.getD v 0≤k:=by
 intro k;induction k with
 |zero=>intro v hv h;have:E.getD v 0=0:=(hE.zero v hv).2 ((hD.zero v hv).1 (by omega));rw[this];simp
 |succ k ih=>intro v hv h;obtain⟨u,hu,hm,hd⟩:=hD.back v hv (by omega);obtain⟨a,b⟩:=ih u hu (by omega);obtain⟨c,d⟩:=hE.edge u v hu a hm;exact⟨c,by omega⟩
theorem aEy {adj:Nat→List Nat}{src:List Nat}{N:Nat}{D E:List Int}(hD:yD adj src N D)(hE:yD adj src N E){v:Nat}(hv:v<N):(0≤D.getD v 0↔0≤E.getD v 0)∧(0≤D.getD v 0→D.getD v 0=E.getD v 0):=by
 have h1: ∀(A B:List Int),yD adj src N A→yD adj src N B→0≤A.getD v 0→0≤B.getD v 0∧B.getD v 0≤A.getD v 0:=by intro A B hA hB h;obtain⟨k,hk⟩:=aWk h;have:=aUb hA hB k v hv hk;rw[hk];exact this
 refine⟨⟨fun h=>(h1 D E hD hE h).1,fun h=>(h1 E D hE hD h).1⟩,fun h=> ?_⟩;obtain⟨a,b⟩:=h1 D E hD hE h;obtain⟨c,d⟩:=h1 E D hE hD a;omega
def kY (N:Nat)(src:List Nat):List Int:=src.foldl (fun A v=>A.set v 0) (List.replicate N (-1))
theorem aKp (N:Nat)(src:List Nat)(v:Nat):kY N (src++ [v])=(kY N src).set v 0:=by simp[kY]
theorem aE3 (N:Nat)(src:List Nat):(kY N src).length=N:=by
 unfold kY
 suffices h: ∀(l:List Nat) (A:List Int),(l.foldl (fun A v=>A.set v 0) A).length=A.length by rw[h];simp
 intro l;induction l with
 |nil=>intro A;rfl
 |cons x l ih=>intro A;simp only[List.foldl_cons];rw[ih];simp
theorem aE4 (N:Nat)(src:List Nat)(v:Nat)(hv:v<N):(v∈src→(kY N src).getD v 0=0)∧(v∉src→(kY N src).getD v 0= -1):=by
 unfold kY
 suffices h: ∀(l:List Nat) (A:List Int),A.length=N→(v∈l→(l.foldl (fun A v=>A.set v 0) A).getD v 0=0)∧(v∉l→(l.foldl (fun A v=>A.set v 0) A).getD v 0=A.getD v 0) by obtain⟨a,b⟩:=h src (List.replicate N (-1)) (by simp);exact⟨a,fun h=>by rw[b h];simp[List.getD,hv]⟩
 intro l;induction l with
 |nil=>intro A _;simp
 |cons x l ih=>
  intro A hA;simp only[List.foldl_cons];obtain⟨a,b⟩:=ih (A.set x 0) (by simpa using hA);constructor
  ·intro hm;by_cases hl:v∈l
   ·exact a hl
   have:v=x:=by simpa[hl]using hm
   subst this;rw[b hl,cX (by omega)]
  intro hm;have h1:v≠x:=fun e=>hm (by simp[e])
  have h2:v∉l:=fun e=>hm (by simp[e])
  rw[b h2,cF (Ne.symm h1)]
theorem Inv.begin {adj:Nat→List Nat}{src:List Nat}{N:Nat}(hb: ∀v∈src,v<N)(a:src.Nodup):Inv adj src N 0 (kY N src,src):=by
 have h0: ∀v∈src,(kY N src).getD v 0=0:=fun v hv=>(aE4 N src v (hb v hv)).1 hv
 refine⟨aE3 _ _,hb,fun v hv=> ?_,a,?_,?_,?_,fun v hv=>⟨hv,h0 v hv⟩,fun i u hi=>absurd hi (by omega)⟩
 ·by_cases hm:v∈src
  ·rw[h0 v hm];simp[hm]
  rw[(aE4 N src v hv).2 hm];simp[hm]
 ·refine List.pairwise_iff_getElem.2 fun i j hi hj _=> ?_
  dsimp only;rw[h0 _ (List.getElem_mem hi),h0 _ (List.getElem_mem hj)];exact Int.le_refl _
 ·intro u hu v hv;dsimp only;rw[h0 v hv,h0 u (aW1 hu)];omega
 intro v hv;dsimp only;rw[h0 v hv];exact hv
theorem yB (hn:n≤12): ∀u v,u<NN→v∈aCv aA n MM u→v<NN:=by intro u v hu hv;obtain⟨f,t,h1,h2,h3,h4,h5,rfl⟩:=qJ.1 hv;have hc:eL (u/MM) f t<12:=aJn (aUw hu) (by omega);have hS:u%MM<2 ^ 12:=Nat.mod_lt _ (by decide);have:=xD hS (by omega:f<12) h5 h4;show eL (u/MM) f t*4096+dP (u%MM) f t<49152;omega
theorem aMn (hn:n≤12): ∀v∈aB1 n many,v<NN:=fun v hv=>by
 have:=(lK.1 hv).1;have h:=kO hn;have h2:(MM:Nat)<NN:=by decide
 omega
theorem aB0:(aB1 n many).Nodup:=List.Pairwise.filter _ List.nodup_range
end
end
section
theorem aTk (m:Nat→Bool)(f k:Nat):mU m f k=((List.range k).filter m).map (fun(t:Nat)=>((f:Int),(t:Int))):=by
 induction k with
 |zero=>rfl
 |succ k ih=>rw[aXj,aX8,aWs,show mU m f (k+1)=mU m f k++(if m k then [((f:Int),(k:Int))]else [])from rfl,ih];cases h:m k<;>simp[h]
theorem aQz (m:Nat→Nat→Bool)(n k:Nat):eS m n k=(List.range k).flatMap (fun f=>((List.range n).filter (m f)).map (fun(t:Nat)=>((f:Int),(t:Int)))):=by
 induction k with
 |zero=>rfl
 |succ k ih=>rw[aXj,aX4,show eS m n (k+1)=eS m n k++mU (m k) k n from rfl,ih,aTk];simp
theorem iZ {xs:List Int}(hk:k<xs.length):dQ xs k=decide (xs.getD k 0=0):=by unfold dQ;rw[aW7,aW0 hk];simp;rfl
theorem aIe {aA aB:Int}{xs:List Int}(h:aO aA aB xs=true)(hf:f<xs.length)(ht:t<xs.length):
  bM aA aB xs (f:Int) (t:Int)=(!(aP xs).testBit f&&(decide (t∈aU aA xs.length f)&&(aP xs).testBit t)):=by
 have h1:eG aA aB xs (f:Int) (t:Int)=bE aA f t:=by unfold eG;rw[if_pos ⟨h,⟨by omega,by omega⟩,by omega,by omega⟩]
 have h2:=sZ h f;unfold bM;rw[h1,fV,fV,iZ hf,iZ ht];simp only[aXo];have h3:decide (t∈aU aA xs.length f)=decide (bE aA f t=1):=by
  have:t∈aU aA xs.length f↔bE aA f t=1:=by rw[cH];exact⟨fun h=>h.2,fun h=>⟨ht,h⟩⟩
  simp[this]
 have h4:decide (0<xs.getD f 0)= !decide (xs.getD f 0=0):=by
  by_cases h0:xs.getD f 0=0
  ·rw[h0];rfl
  have:0<xs.getD f 0:=by omega
  simp only[h0,this];rfl
 rw[h3,h4];cases decide (bE aA f t=1)<;>cases decide (xs.getD f 0=0)<;>rfl
theorem aFr {aA aB:Int}{xs:List Int}(h:aO aA aB xs=true):jY aA aB xs=(fN aA xs.length (aP xs)).map (fun e=>((e.1:Int),(e.2:Int))):=by
 unfold jY fN;rw[aQz,List.map_flatMap];have b: ∀l:List Nat,(∀f∈l,f<xs.length)→l.flatMap (fun(f:Nat)=>((List.range xs.length).filter (fun(t:Nat)=>bM aA aB xs f t)).map (fun(t:Nat)=>((f:Int),(t:Int))))=l.flatMap (fun a=>(if(aP xs).testBit a then []else((aU aA xs.length a).filter (fun t=>(aP xs).testBit t)).map (fun t=>(a,t))).map (fun e=>((e.1:Int),(e.2:Int)))):=by
  intro l;induction l with
  |nil=>intro _;rfl
  |cons f l ih=>
   intro hl;have hf:=hl f (by simp);rw[aXb,aXb,ih (fun x hx=>hl x (by simp[hx]))];congr 1
   have e1:(List.range xs.length).filter (fun(t:Nat)=>bM aA aB xs f t)=(List.range xs.length).filter (fun(t:Nat)=>(!(aP xs).testBit f&&(decide (t∈aU aA xs.length f)&&(aP xs).testBit t))):=
    List.filter_congr (fun t ht=>aIe h hf (aWm.1 ht))
   rw[e1];cases hb:(aP xs).testBit f with
   |true=>simp
   |false=>
    simp only[Bool.not_false,Bool.true_and,Bool.false_eq_true,if_false,List.map_map];have e2:(List.range xs.length).filter (fun(t:Nat)=>decide (t∈aU aA xs.length f)&&(aP xs).testBit t)=(aU aA xs.length f).filter (fun t=>(aP xs).testBit t):=by
     have:aU aA xs.length f=(List.range xs.length).filter (fun t=>decide (t∈aU aA xs.length f)):=by
      conv=>lhs;unfold aU
      refine List.filter_congr (fun t ht=> ?_);have:t∈aU aA xs.length f↔bE aA f t=1:=by rw[cH];exact⟨fun h=>h.2,fun h=>⟨aWm.1 ht,h⟩⟩
      simp[this]
     conv=>rhs;rw[this]
     rw[List.filter_filter];refine List.filter_congr (fun t _=> ?_);rw[Bool.and_comm]
    rw[e2];rfl
 exact b _ (fun f hf=>aWm.1 hf)
theorem zG {aA aB:Int}{xs:List Int}(h:aO aA aB xs=true)(he:(f,t)∈fN aA xs.length (aP xs)):
  bM aA aB xs (f:Int) (t:Int)=true∧bQ aA aB xs (f:Int) (t:Int)=(xs.set t (xs.getD f 0)).set f 0∧aP (bQ aA aB xs (f:Int) (t:Int))=dP (aP xs) f t∧ ∀c id,xs[c]? =some id→id≠0→(bQ aA aB xs (f:Int) (t:Int))[eL c f t]? =some id:=by
 obtain⟨h1,h2,h3,h4,h5⟩:=iG.1 he;dsimp only at h1 h2 h3 h4 h5;have hm:bM aA aB xs (f:Int) (t:Int)=true:=by rw[aIe h h1 h2,h4,h5];simp[h3]
 have hd:bQ aA aB xs (f:Int) (t:Int)=(xs.set t (xs.getD f 0)).set f 0:=by unfold bQ;rw[if_pos hm];simp only[aXo]
 have j:f≠t:=fun e=>by subst e;rw[h5]at h4;cases h4
 have b:xs.getD f 0≠0:=by intro e;rw[fV,iZ h1,e]at h4;simp at h4
 refine⟨hm,hd,?_,?_⟩
 ·refine aN7 fun k=> ?_
  rw[fZ h5 h4,fV,fV,hd];by_cases hk:k<xs.length
  ·rw[iZ (by simpa using hk),iZ hk];by_cases k1:k=f
   ·subst k1;rw[aW7,aWa (by simpa using hk)];simp
   by_cases k2:k=t
   ·subst k2;rw[aW7,aXr (Ne.symm k1),aWa hk];have e:(some (xs.getD f 0)).getD 0=xs.getD f 0:=rfl;rw[e];have d: ¬xs[f]?.getD 0=0:=by rw[←aW7];exact b
    simp[d,k1]
   rw[aW7,aXr (Ne.symm k1),aXr (Ne.symm k2),←aW7];simp[k1,k2]
  have e1:dQ ((xs.set t (xs.getD f 0)).set f 0) k=false:=by unfold dQ;rw[aXg (by simp;omega)];rfl
  have e2:dQ xs k=false:=by unfold dQ;rw[aXg (by omega)];rfl
  rw[e1,e2];have:k≠f:=by omega
  simp[this]
 intro c id hc h0;rw[hd];obtain⟨i,g⟩:=aW3.1 hc;unfold eL;by_cases hcf:f=c
 ·rw[if_pos hcf,aXr (by omega),aWa h2,hcf,aW7,hc];rfl
 rw[if_neg hcf];have a:t≠c:=by rintro rfl;rw[fV,iZ h2,aW7,hc]at h5;simp at h5;exact h0 h5
 rw[aXr hcf,aXr a,hc]
def oW (aA:Int)(n:Nat)(dd:Nat→Nat→Int)(s:Nat×Nat):Option (Nat×Nat):=(fN aA n s.2).find? (fun e=>decide (dd (eL s.1 e.1 e.2) (dP s.2 e.1 e.2)=dd s.1 s.2-1))
def lY (s e:Nat×Nat):Nat×Nat:=(eL s.1 e.1 e.2,dP s.2 e.1 e.2)
def gP (aA:Int)(n:Nat)(dd:Nat→Nat→Int)(s:Nat×Nat):Nat→Nat×Nat
 |0=>s
 |j+1=>match oW aA n dd (gP aA n dd s j)with
  |none=>gP aA n dd s j
  |some e=>lY (gP aA n dd s j) e
def jK (aA:Int)(n:Nat)(dd:Nat→Nat→Int)(s:Nat×Nat)(j:Nat):Nat×Nat:=(oW aA n dd (gP aA n dd s j)).getD (0,0)
def bD (D:List Int)(c S:Nat):Int:=D.getD (c*MM+S) 0
structure sE (n many:Nat) (s:Nat×Nat):Prop where
 car:s.1<n
 set:s.2<2 ^ n
 occ:s.2.testBit s.1=false
 many:jQ s.2=many
section
variable {aA:Int} {n many:Nat} {D:List Int}
theorem qV (hn:n≤12){s:Nat×Nat}(h:sE n many s):aDr n MM (s.1*MM+s.2)∧(s.1*MM+s.2)/MM=s.1∧(s.1*MM+s.2)%MM=s.2:=by have hl:s.2<MM:=aVy h.set (kO hn);have e1:(s.1*MM+s.2)/MM=s.1:=oL hl;have e2:(s.1*MM+s.2)%MM=s.2:=jU hl;exact⟨⟨by rw[e1];exact h.car,by rw[e2];exact h.set,by rw[e1,e2];exact h.occ⟩,e1,e2⟩
theorem aFv (hn:n≤12){s e:Nat×Nat}(h:sE n many s)(he:e∈fN aA n s.2):wE aA n MM (s.1*MM+s.2) ((lY s e).1*MM+(lY s e).2)∧sE n many (lY s e):=by
 obtain⟨h1,h2,h3,h4,h5⟩:=iG.1 he;obtain⟨a,b,c⟩:=qV hn h;have hE:wE aA n MM (s.1*MM+s.2) ((lY s e).1*MM+(lY s e).2):=⟨e.1,e.2,h1,h2,h3,by rw[c];exact h4,by rw[c];exact h5,by rw[b,c];rfl⟩
 have hl:=xD h.set h1 h5 h4;have k:=xW (kO hn) a hE;have k2:=uH (kO hn) a.set hE;have d:(lY s e).2<MM:=aVy hl (kO hn);have e1:=k.car;have e2:=k.set;have e3:=k.occ;rw[oL d]at e1;rw[jU d]at e2;rw[oL d,jU d]at e3;rw[jU d,c,h.many]at k2;exact⟨hE,e1,e2,e3,k2⟩
theorem yT (g:4≤n)(hn:n≤12)(hD:gO aA n many D){s:Nat×Nat}(h:sE n many s)(h0:0<bD D s.1 s.2): ∃e,oW aA n (bD D) s=some e∧e∈fN aA n s.2∧bD D (lY s e).1 (lY s e).2=bD D s.1 s.2-1∧sE n many (lY s e):=by
 obtain⟨a,b,c⟩:=qV hn h;obtain⟨u,hu,hm,hd⟩:=hD.back _ (sP hn a) h0;have d:D.getD (s.1*MM+s.2) 0=bD D s.1 s.2:=rfl;obtain⟨k,hk⟩:=aWk (show 0≤D.getD u 0 by rw[hd,d];omega);obtain⟨u1,u2⟩:=aN4 g hn hD k u hu hk;obtain⟨f,t,h1,h2,h3,h4,h5,h6⟩:=aEw (kO hn) u1 (qJ.1 hm);rw[b,c]at h6;rw[c]at h4 h5;have he:(f,t)∈fN aA n s.2:=iG.2 ⟨h1,h2,h3,h4,h5⟩;have hp:(fun e:Nat×Nat=>decide (bD D (eL s.1 e.1 e.2) (dP s.2 e.1 e.2)=bD D s.1 s.2-1)) (f,t)=true:=by simp only[decide_eq_true_eq];show D.getD (jJ MM s.1 s.2 f t) 0=_;rw[←h6,hd,d]
 cases hf:oW aA n (bD D) s with
 |none=>unfold oW at hf;have:=List.find?_eq_none.1 hf _ he;exact absurd hp this
 |some e=>unfold oW at hf;have h7:=List.find?_some hf;have h8:=aXw hf;simp only[decide_eq_true_eq]at h7;exact⟨e,rfl,h8,h7,(aFv hn h h8).2⟩
theorem aMx {dd:Nat→Nat→Int}{s:Nat×Nat}{j:Nat}{e:Nat×Nat}(h:oW aA n dd (gP aA n dd s j)=some e):gP aA n dd s (j+1)=lY (gP aA n dd s j) e:=by rw[gP,h]
theorem lP (c:4≤n)(hn:n≤12)(hD:gO aA n many D){s:Nat×Nat}(h:sE n many s){d:Nat}(hd:bD D s.1 s.2=d): ∀j,j≤d→sE n many (gP aA n (bD D) s j)∧bD D (gP aA n (bD D) s j).1 (gP aA n (bD D) s j).2=(d:Int)-j:=by
 intro j;induction j with
 |zero=>intro _;exact⟨h,by show bD D s.1 s.2=_;rw[hd];simp⟩
 |succ j ih=>intro hj;obtain⟨a,b⟩:=ih (by omega);obtain⟨e,h1,h2,h3,h4⟩:=yT c hn hD a (by rw[b];omega);rw[aMx h1];exact⟨h4,by rw[h3,b];omega⟩
theorem mZ (c:4≤n)(hn:n≤12)(hD:gO aA n many D){s:Nat×Nat}(h:sE n many s){d:Nat}(hd:bD D s.1 s.2=d){j:Nat}(hj:j<d):oW aA n (bD D) (gP aA n (bD D) s j)=some (jK aA n (bD D) s j)∧jK aA n (bD D) s j∈fN aA n (gP aA n (bD D) s j).2∧gP aA n (bD D) s (j+1)=lY (gP aA n (bD D) s j) (jK aA n (bD D) s j):=by
 obtain⟨a,b⟩:=lP c hn hD h hd j (by omega);obtain⟨e,h1,h2,h3,h4⟩:=yT c hn hD a (by rw[b];omega);have he:jK aA n (bD D) s j=e:=by unfold jK;rw[h1];rfl
 rw[he];exact⟨h1,h2,aMx h1⟩
theorem aSc (c:4≤n)(hn:n≤12)(hD:gO aA n many D){s:Nat×Nat}(h:sE n many s){d:Nat}(hd:bD D s.1 s.2=d){j:Nat}(hj:j≤d):(gP aA n (bD D) s j).1=0↔j=d:=by
 obtain⟨a,b⟩:=lP c hn hD h hd j hj;obtain⟨k1,k2,k3⟩:=qV hn a;have hz:=hD.zero _ (sP hn k1);have hb:D.getD ((gP aA n (bD D) s j).1*MM+(gP aA n (bD D) s j).2) 0=(d:Int)-j:=b;rw[hb,lK]at hz;constructor
 ·intro h0
  have:=hz.2 (by
   rw[h0,Nat.zero_mul,aWz]
   exact⟨a.set,by have:=a.occ;rw[h0]at this;exact this,a.many⟩)
  omega
 intro e;have h1:=(hz.1 (by omega)).1;have hp:=kO hn;have h2:=Nat.div_eq_of_lt (aVy h1 hp);rw[k2]at h2;exact h2
theorem aEa (g:4≤n)(hn:n≤12){E:List Int}(hD:gO aA n many D)(hE:gO aA n many E){s:Nat×Nat}(h:sE n many s)(h0:0<bD D s.1 s.2):oW aA n (bD D) s=oW aA n (bD E) s:=by
 unfold oW;have c: ∀s:Nat×Nat,sE n many s→(0≤bD D s.1 s.2↔0≤bD E s.1 s.2)∧(0≤bD D s.1 s.2→bD D s.1 s.2=bD E s.1 s.2):=fun s hs=>aEy hD hE (sP hn (qV hn hs).1)
 have h1:=(c s h).2 (by omega);have d: ∀l:List (Nat×Nat),(∀e∈l,e∈fN aA n s.2)→l.find? (fun e=>decide (bD D (eL s.1 e.1 e.2) (dP s.2 e.1 e.2)=bD D s.1 s.2-1))=l.find? (fun e=>decide (bD E (eL s.1 e.1 e.2) (dP s.2 e.1 e.2)=bD E s.1 s.2-1)):=by
  intro l;induction l with
  |nil=>intro _;rfl
  |cons e l ih=>
   intro hl;have hp:=(aFv hn h (hl e (by simp))).2;obtain⟨a,b⟩:=c _ hp;have hh:decide (bD D (eL s.1 e.1 e.2) (dP s.2 e.1 e.2)=bD D s.1 s.2-1)=decide (bD E (eL s.1 e.1 e.2) (dP s.2 e.1 e.2)=bD E s.1 s.2-1):=by
    have a':0≤bD D (eL s.1 e.1 e.2) (dP s.2 e.1 e.2)↔0≤bD E (eL s.1 e.1 e.2) (dP s.2 e.1 e.2):=a;have b':0≤bD D (eL s.1 e.1 e.2) (dP s.2 e.1 e.2)→bD D (eL s.1 e.1 e.2) (dP s.2 e.1 e.2)=bD E (eL s.1 e.1 e.2) (dP s.2 e.1 e.2):=b;rw[←h1];by_cases hc:0≤bD D (eL s.1 e.1 e.2) (dP s.2 e.1 e.2)
    ·rw[b' hc]
    have f: ¬0≤bD E (eL s.1 e.1 e.2) (dP s.2 e.1 e.2):=fun x=>hc (a'.2 x)
    have d1: ¬(bD D (eL s.1 e.1 e.2) (dP s.2 e.1 e.2)=bD D s.1 s.2-1):=by omega
    have d2: ¬(bD E (eL s.1 e.1 e.2) (dP s.2 e.1 e.2)=bD D s.1 s.2-1):=by omega
    simp only[d1,d2]
   rw[List.find?_cons,List.find?_cons,hh,ih (fun x hx=>hl x (by simp[hx]))]
 exact d _ (fun e he=>he)
theorem aU7 (c:4≤n)(hn:n≤12){E:List Int}(hD:gO aA n many D)(hE:gO aA n many E){s:Nat×Nat}(h:sE n many s){d:Nat}(hd:bD D s.1 s.2=d): ∀j,j≤d→gP aA n (bD D) s j=gP aA n (bD E) s j:=by
 intro j;induction j with
 |zero=>intro _;rfl
 |succ j ih=>intro hj;have e:=ih (by omega);obtain⟨a,b⟩:=lP c hn hD h hd j (by omega);have p:=aEa c hn hD hE a (by rw[b];omega);rw[gP,gP,←e,p]
theorem aM6 (c:4≤n)(hn:n≤12){E:List Int}(hD:gO aA n many D)(hE:gO aA n many E){s:Nat×Nat}(h:sE n many s){d:Nat}(hd:bD D s.1 s.2=d){j:Nat}(hj:j<d):jK aA n (bD D) s j=jK aA n (bD E) s j:=by obtain⟨a,b⟩:=lP c hn hD h hd j (by omega);unfold jK;rw[←aU7 c hn hD hE h hd j (by omega),aEa c hn hD hE a (by rw[b];omega)]
end
end
end Go.Proofs.YthfmmibomhhmpabGreatDoor
