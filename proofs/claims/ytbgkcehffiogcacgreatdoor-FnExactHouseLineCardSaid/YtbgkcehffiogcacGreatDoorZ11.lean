/-
  Texts of this proof, packed (@packed).
-/
import Derived.Test.YtbgkcehffiogcacGreatDoorZ10
namespace Go.Proofs.YtbgkcehffiogcacGreatDoor
open Go.RowKit
set_option linter.unusedSimpArgs false
set_option linter.unusedVariables false
set_option maxHeartbeats 8000000
set_option maxRecDepth 100000
section
open Go
theorem Mem.put3 {w0 w:World}{L:List Item}{i g B:Nat}{t:TypeId}{a0 a1 a2:Value}(h:Mem w0 w L)(hi:L[i]? =Option.some (aJ B g t #[a0,a1,a2])) (b0 b1 b2:Value):Mem w0 (((w.setCell ⟨g,0,none⟩ b0).setCell ⟨g,1,none⟩ b1).setCell ⟨g,2,none⟩ b2) (L.set i (aJ w0 g t #[b0,b1,b2])):=by
 have hl:i<L.length:=(aQr.1 hi).1;have h0:Mem w0 (w.setCell ⟨g,0,none⟩ b0) (L.set i (aJ w0 g t #[b0,a1,a2])):=by have:=h.store (i:=i) hi 0 b0;simpa[aSq]using this
 have i0:(L.set i (aJ w0 g t #[b0,a1,a2]))[i]? =Option.some (aJ w0 g t #[b0,a1,a2]):=by rw[aRa hl]
 have h1:Mem w0 ((w.setCell ⟨g,0,none⟩ b0).setCell ⟨g,1,none⟩ b1) (L.set i (aJ w0 g t #[b0,b1,a2])):=by have:=h0.store (i:=i) i0 1 b1;simpa[aSq]using this
 have i1:(L.set i (aJ w0 g t #[b0,b1,a2]))[i]? =Option.some (aJ w0 g t #[b0,b1,a2]):=by rw[aRa hl]
 have h2:Mem w0 (((w.setCell ⟨g,0,none⟩ b0).setCell ⟨g,1,none⟩ b1).setCell ⟨g,2,none⟩ b2) (L.set i (aJ w0 g t #[b0,b1,b2])):=by have:=h1.store (i:=i) i1 2 b2;simpa[aSq]using this
 have i2:(L.set i (aJ w0 g t #[b0,b1,b2]))[i]? =Option.some (aJ w0 g t #[b0,b1,b2]):=by rw[aRa hl]
 exact h2
theorem Mem.put10 {w0 w:World}{L:List Item}{i g B:Nat}{t:TypeId}{a0 a1 a2 a3 a4 a5 a6 a7 a8 a9:Value}(h:Mem w0 w L)(hi:L[i]? =Option.some (aJ B g t #[a0,a1,a2,a3,a4,a5,a6,a7,a8,a9])) (b0 b1 b2 b3 b4 b5 b6 b7 b8 b9:Value):Mem w0 ((((((((((w.setCell ⟨g,0,none⟩ b0).setCell ⟨g,1,none⟩ b1).setCell ⟨g,2,none⟩ b2).setCell ⟨g,3,none⟩ b3).setCell ⟨g,4,none⟩ b4).setCell ⟨g,5,none⟩ b5).setCell ⟨g,6,none⟩ b6).setCell ⟨g,7,none⟩ b7).setCell ⟨g,8,none⟩ b8).setCell ⟨g,9,none⟩ b9) (L.set i (aJ w0 g t #[b0,b1,b2,b3,b4,b5,b6,b7,b8,b9])):=by
 have hl:i<L.length:=(aQr.1 hi).1;have h0:Mem w0 (w.setCell ⟨g,0,none⟩ b0) (L.set i (aJ w0 g t #[b0,a1,a2,a3,a4,a5,a6,a7,a8,a9])):=by have:=h.store (i:=i) hi 0 b0;simpa[aSq]using this
 have i0:(L.set i (aJ w0 g t #[b0,a1,a2,a3,a4,a5,a6,a7,a8,a9]))[i]? =Option.some (aJ w0 g t #[b0,a1,a2,a3,a4,a5,a6,a7,a8,a9]):=by rw[aRa hl]
 have h1:Mem w0 ((w.setCell ⟨g,0,none⟩ b0).setCell ⟨g,1,none⟩ b1) (L.set i (aJ w0 g t #[b0,b1,a2,a3,a4,a5,a6,a7,a8,a9])):=by have:=h0.store (i:=i) i0 1 b1;simpa[aSq]using this
 have i1:(L.set i (aJ w0 g t #[b0,b1,a2,a3,a4,a5,a6,a7,a8,a9]))[i]? =Option.some (aJ w0 g t #[b0,b1,a2,a3,a4,a5,a6,a7,a8,a9]):=by rw[aRa hl]
 have h2:Mem w0 (((w.setCell ⟨g,0,none⟩ b0).setCell ⟨g,1,none⟩ b1).setCell ⟨g,2,none⟩ b2) (L.set i (aJ w0 g t #[b0,b1,b2,a3,a4,a5,a6,a7,a8,a9])):=by have:=h1.store (i:=i) i1 2 b2;simpa[aSq]using this
 have i2:(L.set i (aJ w0 g t #[b0,b1,b2,a3,a4,a5,a6,a7,a8,a9]))[i]? =Option.some (aJ w0 g t #[b0,b1,b2,a3,a4,a5,a6,a7,a8,a9]):=by rw[aRa hl]
 have h3:Mem w0 ((((w.setCell ⟨g,0,none⟩ b0).setCell ⟨g,1,none⟩ b1).setCell ⟨g,2,none⟩ b2).setCell ⟨g,3,none⟩ b3) (L.set i (aJ w0 g t #[b0,b1,b2,b3,a4,a5,a6,a7,a8,a9])):=by have:=h2.store (i:=i) i2 3 b3;simpa[aSq]using this
 have i3:(L.set i (aJ w0 g t #[b0,b1,b2,b3,a4,a5,a6,a7,a8,a9]))[i]? =Option.some (aJ w0 g t #[b0,b1,b2,b3,a4,a5,a6,a7,a8,a9]):=by rw[aRa hl]
 have h4:Mem w0 (((((w.setCell ⟨g,0,none⟩ b0).setCell ⟨g,1,none⟩ b1).setCell ⟨g,2,none⟩ b2).setCell ⟨g,3,none⟩ b3).setCell ⟨g,4,none⟩ b4) (L.set i (aJ w0 g t #[b0,b1,b2,b3,b4,a5,a6,a7,a8,a9])):=by have:=h3.store (i:=i) i3 4 b4;simpa[aSq]using this
 have i4:(L.set i (aJ w0 g t #[b0,b1,b2,b3,b4,a5,a6,a7,a8,a9]))[i]? =Option.some (aJ w0 g t #[b0,b1,b2,b3,b4,a5,a6,a7,a8,a9]):=by rw[aRa hl]
 have h5:Mem w0 ((((((w.setCell ⟨g,0,none⟩ b0).setCell ⟨g,1,none⟩ b1).setCell ⟨g,2,none⟩ b2).setCell ⟨g,3,none⟩ b3).setCell ⟨g,4,none⟩ b4).setCell ⟨g,5,none⟩ b5) (L.set i (aJ w0 g t #[b0,b1,b2,b3,b4,b5,a6,a7,a8,a9])):=by have:=h4.store (i:=i) i4 5 b5;simpa[aSq]using this
 have i5:(L.set i (aJ w0 g t #[b0,b1,b2,b3,b4,b5,a6,a7,a8,a9]))[i]? =Option.some (aJ w0 g t #[b0,b1,b2,b3,b4,b5,a6,a7,a8,a9]):=by rw[aRa hl]
 have h6:Mem w0 (((((((w.setCell ⟨g,0,none⟩ b0).setCell ⟨g,1,none⟩ b1).setCell ⟨g,2,none⟩ b2).setCell ⟨g,3,none⟩ b3).setCell ⟨g,4,none⟩ b4).setCell ⟨g,5,none⟩ b5).setCell ⟨g,6,none⟩ b6) (L.set i (aJ w0 g t #[b0,b1,b2,b3,b4,b5,b6,a7,a8,a9])):=by have:=h5.store (i:=i) i5 6 b6;simpa[aSq]using this
 have i6:(L.set i (aJ w0 g t #[b0,b1,b2,b3,b4,b5,b6,a7,a8,a9]))[i]? =Option.some (aJ w0 g t #[b0,b1,b2,b3,b4,b5,b6,a7,a8,a9]):=by rw[aRa hl]
 have h7:Mem w0 ((((((((w.setCell ⟨g,0,none⟩ b0).setCell ⟨g,1,none⟩ b1).setCell ⟨g,2,none⟩ b2).setCell ⟨g,3,none⟩ b3).setCell ⟨g,4,none⟩ b4).setCell ⟨g,5,none⟩ b5).setCell ⟨g,6,none⟩ b6).setCell ⟨g,7,none⟩ b7) (L.set i (aJ w0 g t #[b0,b1,b2,b3,b4,b5,b6,b7,a8,a9])):=by have:=h6.store (i:=i) i6 7 b7;simpa[aSq]using this
 have i7:(L.set i (aJ w0 g t #[b0,b1,b2,b3,b4,b5,b6,b7,a8,a9]))[i]? =Option.some (aJ w0 g t #[b0,b1,b2,b3,b4,b5,b6,b7,a8,a9]):=by rw[aRa hl]
 have h8:Mem w0 (((((((((w.setCell ⟨g,0,none⟩ b0).setCell ⟨g,1,none⟩ b1).setCell ⟨g,2,none⟩ b2).setCell ⟨g,3,none⟩ b3).setCell ⟨g,4,none⟩ b4).setCell ⟨g,5,none⟩ b5).setCell ⟨g,6,none⟩ b6).setCell ⟨g,7,none⟩ b7).setCell ⟨g,8,none⟩ b8) (L.set i (aJ w0 g t #[b0,b1,b2,b3,b4,b5,b6,b7,b8,a9])):=by have:=h7.store (i:=i) i7 8 b8;simpa[aSq]using this
 have i8:(L.set i (aJ w0 g t #[b0,b1,b2,b3,b4,b5,b6,b7,b8,a9]))[i]? =Option.some (aJ w0 g t #[b0,b1,b2,b3,b4,b5,b6,b7,b8,a9]):=by rw[aRa hl]
 have h9:Mem w0 ((((((((((w.setCell ⟨g,0,none⟩ b0).setCell ⟨g,1,none⟩ b1).setCell ⟨g,2,none⟩ b2).setCell ⟨g,3,none⟩ b3).setCell ⟨g,4,none⟩ b4).setCell ⟨g,5,none⟩ b5).setCell ⟨g,6,none⟩ b6).setCell ⟨g,7,none⟩ b7).setCell ⟨g,8,none⟩ b8).setCell ⟨g,9,none⟩ b9) (L.set i (aJ w0 g t #[b0,b1,b2,b3,b4,b5,b6,b7,b8,b9])):=by have:=h8.store (i:=i) i8 9 b9;simpa[aSq]using this
 have i9:(L.set i (aJ w0 g t #[b0,b1,b2,b3,b4,b5,b6,b7,b8,b9]))[i]? =Option.some (aJ w0 g t #[b0,b1,b2,b3,b4,b5,b6,b7,b8,b9]):=by rw[aRa hl]
 exact h9
end
section
open Go.Proofs.Tryz
theorem nL (a b:Int): ∀u∈aL (a,b),u.oneCell'=true:=by intro u hu;simp[aL]at hu;rcases hu with rfl|rfl<;>rfl
theorem aLf (aA aB:Int)(pb po:Nat)(n cap:Nat)(xs:List Int)(b d m c2 u:Nat)(p ws:List Nat)(w:World)(b3:4≤n)(hn:n≤12)(b2:0<m)(hm:m≤12)(bc:Hid (ws=u::p))(a5:Hid (ws.length=m))(hb:b<w.heap.size)(bm:pb<w.heap.size)
  (bl:Hid (aO aA aB xs=true))(a2:Hid (xs.length=n))(hu:u<n)(bp:Hid (xs.getD u 0=0))(bo:Hid (nH aA n u p))
  (HS:Hid (∀(k x:Nat),ws[k]? =some x→w.cell? ⟨b,d+k,none⟩=some (I x))) (bf:w.cell? ⟨b,d,none⟩=some (I u)) (be:w.cell? ⟨pb,po+u,none⟩=some (I 0))
  (HW:xB 170 #[aH aA aB (some ⟨pb,po,none⟩) n cap,.slice (some ⟨b,d,none⟩) m c2] w true)
  (HL:xC 65 #[aH aA aB (some ⟨pb,po,none⟩) n cap] w fun w' e w''=> ∃q c,e= .returned (aH aA aB q n c)∧w''.ownsRow w' TI 1 (.slice q n c) n (ivs xs)∧Ext w' w''):
  U 138 #[aH aA aB (some ⟨pb,po,none⟩) n cap,.slice (some ⟨b,d,none⟩) m c2] w (iD (cG xs u p).2 w):=by
 have j1:(0:Int)≤(u:Int):=by omega
 have j2:(u:Int)<(n:Int):=by omega
 go_enter func138,ntmps138;go_wp2;have ME:=(((Mem.start w).c0 TH3 #[aA,aB,.slice (some ⟨pb,po,none⟩) n cap]).made0 TSL 2 (w.heap.size+1) (by simp))
 have X0:=xQ (show Ext w ((w.alloc (.cells #[aA,aB,.slice (some ⟨pb,po,none⟩) n cap] TH3)).alloc (.cells #[] TSL))from ME.ext);refine rL (gl [gEq (.agg #[aA,aB,.slice (some ⟨pb,po,none⟩) n cap]),gEq (.slice (some ⟨b,d,none⟩) m c2),gEq (.bool true),gEq (.bool false),gEq (.bool false),gEq (.pointer (some ⟨w,2,none⟩)),gEq (.slice (some ⟨pb,po,none⟩) n cap),gEq (.slice (some ⟨b,d,none⟩) m c2),gEq (.pointer (some ⟨b,d,none⟩)),gEq (u:Int),gEq (.pointer (some ⟨pb,po+u,none⟩)),gEq (I 0),gEq (.bool false),gEq (.bool false)]) 14 14 [(0,some 12),(1,some 13),(2,some 14),(3,some 15),(4,some 16),(5,some 17),(6,some 18),(7,some 19),(8,some 20),(9,some 21),(10,some 22),(11,some 23),(12,some 24),(13,some 25)] ?steps ?fin
 case steps=>
  refine sC [] rfl (fun wi hx=> ?_) ?_
  ·intro K hK;have hX:Ext ((w.alloc (.cells #[aA,aB,.slice (some ⟨pb,po,none⟩) n cap] TH3)).alloc (.cells #[] TSL)) wi:=by exact .trans (.drew (.refl _)) hx
   obtain⟨aa,bx,bz⟩:=((ME.bk 1).ext hX).tri;go_simp;exact hK _ _ ⟨.agg #[aA,aB,.slice (some ⟨pb,po,none⟩) n cap],rfl,rfl,Ext.refl _⟩
  refine sS0 [] ?_;refine sC [(0,some 12),(1,some 13)] rfl (fun wi hx=> ?_) ?_
  ·intro v0 h0 v1 h1 K hK;subst h0 h1;have hX:Ext w wi:=by exact .trans (.drew (.alloc (.alloc (.refl _) _) _)) hx
   go_wp2_with fail;refine Z (HW _ hX) fun w5 ag=>?_
   go_simp;exact hK _ _ ⟨.bool true,rfl,rfl,ag⟩
  refine sS1 [(2,some 14)] (sS1 [(3,some 15)] (sS1 [(4,some 16)] ?_));refine sC [(4,some 16),(5,some 17)] rfl (fun wi hx=> ?_) ?_
  ·intro v4 h4 v5 h5 K hK;subst h4 h5;have hX:Ext ((w.alloc (.cells #[aA,aB,.slice (some ⟨pb,po,none⟩) n cap] TH3)).alloc (.cells #[] TSL)) wi:=by exact .trans (.drew (.refl _)) hx
   have aa:=((ME.bk 1).ext hX).cl 2;go_simp;exact hK _ _ ⟨.slice (some ⟨pb,po,none⟩) n cap,rfl,rfl,Ext.refl _⟩
  refine sS1 [(4,some 16)] (sS2 [(4,some 16),(7,some 19)] ?_);refine sC [(4,some 16),(8,some 20)] rfl (fun wi hx=> ?_) ?_
  ·intro v4 h4 v8 h8 K hK;subst h4 h8;have hX:Ext ((w.alloc (.cells #[aA,aB,.slice (some ⟨pb,po,none⟩) n cap] TH3)).alloc (.cells #[] TSL)) wi:=by exact .trans (.drew (.refl _)) hx
   have aa:wi.cell? ⟨b,d,none⟩=some (I u):=(X0.out.trans hX).cells.1 _ _ hb |>.trans bf;go_simp;exact hK _ _ ⟨I u,rfl,rfl,Ext.refl _⟩
  refine sS3 [(4,some 16),(6,some 18),(9,some 21)] ?_;refine sC [(4,some 16),(10,some 22)] rfl (fun wi hx=> ?_) ?_
  ·intro v4 h4 bb ab K hK;obtain rfl:=h4;obtain rfl:=ab;have hX:Ext ((w.alloc (.cells #[aA,aB,.slice (some ⟨pb,po,none⟩) n cap] TH3)).alloc (.cells #[] TSL)) wi:=by exact .trans (.drew (.refl _)) hx
   have aa:wi.cell? ⟨pb,po+u,none⟩=some (I 0):=(X0.out.trans hX).cells.1 _ _ bm |>.trans be;go_simp;exact hK _ _ ⟨I 0,rfl,rfl,Ext.refl _⟩
  exact sS2 [(4,some 16),(11,some 23)] (sS2 [(4,some 16),(12,some 24)] StepsL.nil)
 case fin=>
  intro wi hx v0 h0 v1 h1 v2 h2 v3 h3 v4 h4 v5 h5 v6 h6 v7 h7 v8 h8 v9 h9 bb ab b5 bg b6 bh b7 bi;subst h0 h1 h2 h3 h4 h5 h6 h7 h8 h9;obtain rfl:=ab;obtain rfl:=bg;obtain rfl:=bh;obtain rfl:=bi;refine wpAny_done (by kernel_rfl) ?_ _;try go_frame
  have hX:Ext ((w.alloc (.cells #[aA,aB,.slice (some ⟨pb,po,none⟩) n cap] TH3)).alloc (.cells #[] TSL)) wi:=hx.of_drew;have M1:=(ME.adv hX)
  clear ME X0 hx hX;obtain⟨c0,c1,c2⟩:=(M1.bk 1).tri;go_wp2_with fail;clear c0 c1 c2;refine(HL _ M1.ext).mono ?_;rintro e w2 ⟨q0,c0,rfl,a4,a7⟩;have M2:=(M1.call a7 a4)
  clear M1 a7 a4 HW;have ax:=xQ (M2.c0 TH3 #[aA,aB,.slice q0 n c0]);go_wp2;go_loopw [5,7] (fun v i wr=> ∃(k x:Nat) (rest:List Nat) (ys:List Int) (q:OA) (c:Nat) (q5:OA) (l lc:Nat) (sl:List Sl2),1≤k∧k≤m∧i=I k∧v= .slice q5 l lc∧l=sl.length∧l≤k∧ws.drop (k-1)=x::rest∧aO aA aB ys=true∧ys.length=n∧x<n∧ys.getD x 0=0∧nH aA n x rest∧sl++(cG ys x rest).2=(cG xs u p).2∧Mem w wr [aJ w w2 TH3 #[aA,aB,.slice q n c],aI w TI 1 (q) (n) (c) (ivs ys),aI w TSL 2 (q5) (l) (lc) (sl.flatMap aL),aJ w w TH3 #[aA,aB,.slice (some ⟨pb,po,none⟩) n cap]]) (fun _ i _=>m-(intOf i).toNat)
  case atStart=>exact⟨1,u,p,xs,q0,c0,some ⟨w.heap.size+1,0,none⟩,0,0,[],aQn _,by omega,rfl,rfl,rfl,by omega,by rw[bc.out];rfl,bl.out,a2.out,hu,bp.out,bo.out,rfl,ax.out⟩
  case round=>
   clear ax M2;obtain⟨k,x,rest,ys,q,c,q5,l,lc,sl,b0,hk,rfl,rfl,hl,b1,ay,ak,a3,au,a6,am,al,hM⟩:=hrel;have ae:=xQ ay;have j:=xQ ak;have f:=xQ a3;have ap:=xQ a6;have t:=xQ am;have s:=xQ al;have ao:=xQ hl;have HM:=hM;clear ay ak a3 a6 am al hM hl;by_cases hlt:k<m
   ·obtain⟨y,rest',o⟩: ∃y rest',rest=y::rest':=by
     have h1:=congrArg List.length ae.out;rw[aSa,a5.out]at h1;cases rest with
     |nil=>simp at h1;omega
     |cons y r=>exact⟨y,r,rfl⟩
    subst o;have a9:ws[k-1]? =some x:=by have:=congrArg (fun z=>z[0]?) ae.out;simpa using this
    have ad:ws.drop k=y::rest':=by have:=congrArg List.tail ae.out;rw[List.tail_drop,show k-1+1=k by omega]at this;exact this
    have ba:ws[k]? =some y:=by have:=congrArg (fun z=>z[0]?) ad;simpa using this
    have ai:=xQ ad;have aq:y∈aR aA n x:=t.out.1;have a8:y<n:=(bU.1 aq).1;have an:=xQ aq;have ah:=HM.ext;have ca:wr.cell? ⟨b,d+(k-1),none⟩=some (I x):=(ah.cells.1 _ _ hb).trans (HS (k-1) x a9);have cb:wr.cell? ⟨b,d+k,none⟩=some (I y):=(ah.cells.1 _ _ hb).trans (HS k y ba);have aw:b<wr:=aQm hb ah.sz;clear ad aq a9 ba ah;have i1:(0:Int)≤(k:Int):=by omega
    have i2:(k:Int)<(m:Int):=by omega
    have i3:(k:Int)-1<(m:Int):=by omega
    have i4:((k:Int)-1).toNat=k-1:=by omega
    have i5:(1:Int)≤(k:Int):=by omega
    go_wp2;refine rL (gl [gEq (.slice (some ⟨b,d,none⟩) m c2),gEq (k:Int),gEq (.pointer (some ⟨b,d+k,none⟩)),gEq (y:Int),gEq (.slice (some ⟨b,d,none⟩) m c2),gEq (k:Int),gEq ((k:Int)-1:Int),gEq (.pointer (some ⟨b,d+(k-1),none⟩)),gEq (x:Int),gEq (.agg #[y,x]),aQd wr TSL #[(),()]]) 11 12 [(0,some 35),(1,some 36),(2,some 37),(3,some 38),(4,some 39),(5,some 40),(6,some 41),(7,some 42),(8,some 43),(9,some 44),(10,some 8)] ?steps ?fin
    case steps=>
     refine sS0 [] (sS0 [] (sS2 [(0,some 35),(1,some 36)] ?_));refine sC [(2,some 37)] rfl (fun wi hx=> ?_) ?_
     ·intro v2 h2 K hK;obtain rfl:=h2;have hX:=hx.of_drew;have aa:wi.cell? ⟨b,d+k,none⟩=some (I y):=(hX.cells.1 _ _ aw).trans cb;go_simp;exact hK _ _ ⟨I y,rfl,rfl,Ext.refl _⟩
     refine sS0 [] (sS0 [] ?_);refine sC [(5,some 40)] rfl (fun wi hx=> ?_) ?_
     ·intro v5 h5 K hK;obtain rfl:=h5;have b4:IntKind.i64.wrap ((k:Int)-1)=(k:Int)-1:=aQp _ (by omega);go_simp;exact hK _ _ ⟨I ((k:Int)-1),rfl,rfl,Ext.refl _⟩
     refine sS2 [(4,some 39),(6,some 41)] ?_;refine sC [(7,some 42)] rfl (fun wi hx=> ?_) ?_
     ·intro v7 h7 K hK;obtain rfl:=h7;have hX:=hx.of_drew;have aa:wi.cell? ⟨b,d+(k-1),none⟩=some (I x):=(hX.cells.1 _ _ aw).trans ca;go_simp;exact hK _ _ ⟨I x,rfl,rfl,Ext.refl _⟩
     refine sS2 [(3,some 38),(8,some 43)] ?_;refine sC [] rfl (fun wi hx=> ?_) StepsL.nil
     ·intro K hK;go_simp;exact hK _ _ ⟨.pointer (some ⟨wi,0,none⟩),rfl,⟨wi.heap.size,rfl,by have:=hx.sz;simp at this;omega,Blk.new _ _ _⟩,(Ext.refl _).alloc _⟩
    case fin=>
     intro wi hx v0 h0 v1 h1 v2 h2 v3 h3 v4 h4 v5 h5 v6 h6 v7 h7 v8 h8 v9 h9 bb ab;subst h0 h1 h2 h3 h4 h5 h6 h7 h8 h9;obtain⟨af,rfl,aj,av⟩:=ab;have hX:Ext wr wi:=hx.of_drew;have M1:=(show Mem w wi [aJ w (af) TSL #[(),()],aJ w w2 TH3 #[aA,aB,.slice q n c],aI w TI 1 (q) (n) (c) (ivs ys),aI w TSL 2 (q5) (l) (lc) (sl.flatMap aL),aJ w w TH3 #[aA,aB,.slice (some ⟨pb,po,none⟩) n cap]]from HM.blkOf hX av aj)
     clear HM hx hX ca cb av aj;try go_frame
     have z0:=(M1.bk 0).cl 0;have bv:=(M1.bk 0).frozen 0;have z1:=(M1.bk 0).cl 1;have bw:=(M1.bk 0).frozen 1;refine wpAny_ready (rs:= [11]) (by kernel_rfl) (by simp) ?_;refine AllReady.cons rfl (fun K hK=> ?_) AllReady.nil;go_simp;refine hK _ _ ?_;clear hK K z0 bv z1 bw;have M2:=((M1.st 0 0 (I y)).st 0 1 (I x))
     generalize ((wi.setCell ⟨af,0,none⟩ (I y)).setCell ⟨af,1,none⟩ (I x))=w4 at M2⊢;clear M1;refine wpAny_done (by kernel_rfl) ?_ _;try go_frame
     obtain⟨g,h⟩:=M2.nq 0 1;obtain⟨n0,n1,n2⟩:=(M2.bk 1).tri;have s0:=(M2.bk 0).cl 0;have s1:=(M2.bk 0).cl 1;have HD:=xQ (fun w' (hx:Ext w4 w')=>lZ aA aB (y:Int) (x:Int) q n c ys w' ((M2.sq 2).ext hx) j.out);go_wp2_with fail;refine(HD _ (by exact .refl _)).mono ?_;rintro e w5 ⟨q6,c6,rfl,ar,ag⟩;have a1:(bH aA aB ys (y:Int) (x:Int)).length=n:=by rw[cZ,f.out]
     rw[a1]at ar⊢;clear a1 HD g h n0 n1 n2 s0 s1;have M3:=(M2.call ag ar)
     clear M2 ag ar;have bq:=M3.hi 1;have br:=M3.hi 2;by_cases hy0:ys.getD y 0=0
     ·have hm:bD aA aB ys (y:Int) (x:Int)=false:=by have:=aN0 j (by rw[f.out];exact au) ap (by rw[f.out];exact an.out) hy0;exact this
      have hr:=xQ (qW (a:=x) (l:=rest') hy0);have bd:=xQ hy0;clear hy0;rw[hm];clear hm;go_wp2;go_roundw
      case rel=>exact⟨k+1,y,rest',ys,q,c,q5,l,lc,sl,by omega,by omega,by go_num,rfl,ao.out,by omega,by rw[aT1];exact ai.out,j.out,f.out,a8,bd.out,t.out.2,by rw[←s.out,hr.out],((M3.c0 TH3 #[aA,aB,.slice q6 n c6]).pick [3,4,5,6] (by decide) rfl)⟩
      case measure=>simp[intOf];omega
     obtain⟨hm,hd⟩:=aBy j (by rw[f.out];exact au) ap (by rw[f.out];exact an.out) hy0;obtain⟨n1,n2,n3⟩:=tS j (by rw[f.out];exact au) ap (by rw[f.out];exact an.out) hy0;have hr:=xQ (oX (a:=x) (l:=rest') hy0);rw[hd]at M3;rw[hm];clear hm hd hy0;generalize (ys.set x (ys.getD y 0)).set y 0=zs at*;have N1:=xQ n1;have N2:=xQ n2;have N3:=xQ n3;clear n1 n2 n3;obtain⟨g,h⟩:=M3.nq 1 2;obtain⟨n0,bs,n1,bt,n2,bu⟩:=(M3.bk 2).trif;have s0:=(M3.bk 1).cl 0;have s1:=(M3.bk 1).cl 1;go_wp2_with (at_builtin;go_loud (refine cH sL rfl _ _ rfl (((((M3.store (i:=2) rfl 0 (I aA)).store (i:=2) rfl 1 (I aB)).store (i:=2) rfl 2 (.slice q6 n c6)).bn TH3 #[aA,aB,.slice q6 n c6] w5).adv ((Ext.refl _).alloc (.cells #[y,x] TSL))) 5 rfl rfl (aL ((y:Int),(x:Int))) rfl (eH _ _ _ 1 2 _ (by simp) (by simp) (by simp[maxLen])) (nL _ _) (by omega) ?_;intro q7 c7 w6 M6));clear g h n0 bs n1 bt n2 bu s0 s1;have M7:=(show Mem w w6 [aJ w w5 TH3 #[aA,aB,.slice q6 n c6],aI w TI 1 (q6) (n) (c6) (ivs zs),aJ w (af) TSL #[y,x],aJ w w2 TH3 #[aA,aB,.slice q6 n c6],aI w TI 1 (q) (n) (c) (ivs ys),aI w TSL 2 (q7) (l+1) (c7) (sl.flatMap aL++aL ((y:Int),(x:Int))),aJ w w TH3 #[aA,aB,.slice (some ⟨pb,po,none⟩) n cap]]from M6)
     clear M6 M3;have a0:Hid (sl.flatMap aL++aL ((y:Int),(x:Int))=(sl++ [((y:Int),(x:Int))]).flatMap aL):=by show _=_;rw[aRh];simp
     rw[a0.out]at M7;clear a0;go_wp2;go_roundw
     case rel=>exact⟨k+1,y,rest',zs,q6,c6,q7,l+1,c7,sl++ [((y:Int),(x:Int))],by omega,by omega,by go_num,rfl,by rw[aQw,←ao.out];rfl,by omega,by rw[aT1];exact ai.out,N1.out,by rw[N2.out,f.out],a8,N3.out,t.out.2,by rw[←s.out,hr.out];simp,(M7.pick [3,1,5,6] (by decide) rfl)⟩
     case measure=>simp[intOf];omega
   obtain rfl:m=k:=by omega
   have o:rest= []:=by
    have h1:=congrArg List.length ae.out;rw[aSa,a5.out]at h1;cases rest with
    |nil=>rfl
    |cons y r=>simp at h1;omega
   subst o;have az:Hid (sl=(cG xs u p).2):=by show _=_;rw[←s.out];simp[cG]
   go_wp2;go_ret;have bj:=ao.out;subst bj;rw[←az.out];exact⟨q5,lc,rfl,HM.ow 2,HM.ext⟩
abbrev aTa (w:World)(p:Option Addr)(xs:List Int)(c:Nat):Item:=aI w.heap.size TI 1 p xs.length c (ivs xs)
abbrev aTc (r:aM)(p:Option Addr)(c:Nat)(q:Option Addr)(d:Nat):Array Value:=#[.int .i64 r.aA,.int .i64 r.aB,.slice p r.cells.length c,.int .i64 r.free,.int .i64 r.step,.int .i64 r.aD,.int .i64 r.aF,.int .i64 r.aC,.int .i64 r.aG,.slice q r.vs.length d]
theorem kH {aA:Int}{n:Nat}(hg:(aA,n)∈jB){u:Nat}(hu:u<n):0<(dD aA n 12 u).length∧(dD aA n 12 u).length≤6∧((dD aA n 12 u).length:Int)=aX aA u 0+1:=by have g:=bV hg hu;have h:=mT hg 12 u hu (by have:=g.2.1;omega);have:=g.1;have:=g.2.1;omega
theorem aCa {aA aB:Int}{xs:List Int}(a:aO aA aB xs=true){x y:Nat}(hx:x<xs.length)(hy:y∈aR aA xs.length x):dI aA aB xs (x:Int) (y:Int)=1:=by obtain⟨h1,h2⟩:=bU.1 hy;unfold dI;rw[if_pos ⟨a,⟨by omega,by omega⟩,by omega,by omega⟩];exact h2
theorem xI (aA aB:Int)(p:OA)(n cap:Nat)(xs:List Int)(lq:OA)(m lc u:Nat)(w:World)(hS:Sl w p n cap 1 (ivs xs))(d:aO aA aB xs=true)(hu:u<n)(g:xs.getD u 0=0)
  (hL:Sl w lq m lc 1 (ivs (bF (dD aA n 12 u)))):
  U 138 #[aH aA aB p n cap,.slice lq m lc] w (iD (cG xs u (dD aA n 12 u).tail).2 w):=by
 have hl:=hS.ilen;subst hl;have hg:=kA d;obtain⟨g1,g2,g3,g4,g5,g6,g7⟩:=cC (cP d);obtain⟨k1,k2,k3⟩:=kH hg hu;have hm:=hL.ilen;rw[aRb]at hm;obtain⟨pb,po,rfl,l,o⟩:=hS.rd (by omega);obtain⟨b,f,rfl,hb,hc⟩:=hL.rd (by omega);have a: ∀(k x:Nat),(dD aA xs.length 12 u)[k]? =some x→w.cell? ⟨b,f+k,none⟩=some (I x):=by intro k x hx;have hk:=(aQr.1 hx).1;rw[hc k (by omega)];simp[ivs,bF,hx]
 have c:=vT aA xs.length 12 u;have i:w.cell? ⟨b,f,none⟩=some (I u):=a 0 u (by rw[c];rfl);have j:w.cell? ⟨pb,po+u,none⟩=some (I 0):=by rw[o u (by omega)];rw[aQs,aQo hu]at g;simp only[Option.getD_some]at g;simp[ivs,hu,g]
 have HV: ∀w',Ext w w'→U 48 #[aH aA aB (some ⟨pb,po,none⟩) xs.length cap] w' (O (.bool true) w'):=fun w' hy=>by have:=gE aA aB _ xs.length cap xs w' (hS.ext hy);rwa[d]at this
 have HI: ∀w,U 50 #[u,(),((xs.length:Int)-1:Int)] w fun e w'=>e= .returned (.bool true)∧w=w':=fun w=>by have:=rV (u:Int) 0 ((xs.length:Int)-1) w;rwa[show decide ((0:Int)≤(u:Int)∧(u:Int)≤(xs.length:Int)-1)=true by simp;omega]at this
 have HW: ∀w',Ext w w'→U 170 #[aH aA aB (some ⟨pb,po,none⟩) xs.length cap,.slice (some ⟨b,f,none⟩) m lc] w' (O (.bool true) w'):=fun w' hy=>
  aIl aA aB _ xs.length cap b f m lc (dD aA xs.length 12 u) w' g5 g6 (by omega) (by omega) hm (aQm hb hy.sz) (fun k x hx=>(hy.cells.1 _ _ hb).trans (a k x hx)) u ((hy.cells.1 _ _ hb).trans i)
   (fun k x y hx hxy w2 hy2=>by
    have h2:=uB hg 12 u k x y hu hx hxy;have q:=aHh hg 12 u x hu (aQq hx);have:=aB2 aA aB (x:Int) (y:Int) _ xs.length cap xs w2 (hS.ext (hy.trans hy2));rw[aCa d q h2.2]at this
    exact this) (fun w2 hy2=>HV w2 (hy.trans hy2)) HI
 exact aLf aA aB pb po xs.length cap xs b f m lc u (dD aA xs.length 12 u).tail (dD aA xs.length 12 u) w g5 g6 (by omega) (by omega) c hm hb l d rfl hu g (sV hg 12 u hu) a i j HW
  (fun w' hy=>(fR aA aB _ xs.length cap xs w' (by omega) (hS.ext hy)).mono fun e w'' h=>h)
def lI (aA:Int)(n:Nat):Option Nat→List Nat
 |none=> []
 |some u=>dD aA n 12 u
theorem zP {aA:Int}{n:Nat}(hg:(aA,n)∈jB){l:List Nat}(hl: ∀x∈l,x<n){u:Nat}(hu:u<n):
  ((lI aA n (dE aA l)).length=0∨(dD aA n 12 u).length<(lI aA n (dE aA l)).length→dE aA (l++ [u])=some u)∧
  (¬((lI aA n (dE aA l)).length=0∨(dD aA n 12 u).length<(lI aA n (dE aA l)).length)→dE aA (l++ [u])=dE aA l):=by
 obtain⟨k1,k2,k3⟩:=kH hg hu;rw[aBa];cases h:dE aA l with
 |none=>simp[lI,nR]
 |some v=>
  obtain⟨m1,m2,m3⟩:=kH hg (hl v ((kK aA l).2 v h));simp only[lI,nR];constructor
  ·intro hc;rw[if_pos (by omega)]
  intro hc;rw[if_neg (by omega)]
theorem aF9 (aA aB:Int)(p:OA)(n cap:Nat)(fr:List Nat)(F:Nat)(w:World)(hg:Hid ((aA,n)∈jB))(hn:n≤12)(hF:Hid (fr.length=F))(af:F≤12)(r:Hid (∀x∈fr,x<n))
  (HF:xC 144 #[aH aA aB p n cap] w fun w' e w''=> ∃q c,e= .returned (.slice q F c)∧w''.ownsRow w' TI 1 (.slice q F c) F (ivs (bF fr))∧Ext w' w'')
  (j:Hid (∀(u:Nat),u<n→ ∀w',Ext w w'→U 169 #[aH aA aB p n cap,u,(),(-1:Int)] w' (aY (bF (dD aA n 12 u)) w'))):
  U 137 #[aH aA aB p n cap,(),(-1:Int)] w (aY (bF (lI aA n (dE aA fr))) w):=by
 go_enter func137,ntmps137;have ME:=(((Mem.start w).c0 TH3 #[aA,aB,.slice p n cap]).made0 TI 1 (w.heap.size+1) (by simp))
 go_wp2_with fail;refine(HF _ ME.ext).mono ?_;rintro e w1 ⟨q1,c1,rfl,s,y⟩;have M1:=(ME.call y s)
 clear ME y s;go_wp2;go_loopw [7,9] (fun v i wr=> ∃(k:Nat) (qb:OA) (l lb:Nat),k≤F∧i=I k∧v= .slice qb l lb∧l=(lI aA n (dE aA (fr.take k))).length∧Mem w wr [aI w TI 1 (qb) (l) (lb) (ivs (bF (lI aA n (dE aA (fr.take k))))),aI w TI 1 (q1) (F) (c1) (ivs (bF fr)),aJ w w TH3 #[aA,aB,.slice p n cap]]) (fun _ i _=>F-(intOf i).toNat)
 case atStart=>exact⟨0,some ⟨w.heap.size+1,0,none⟩,0,0,aQt _,rfl,rfl,rfl,(M1.pick [1,0,2] (by decide) rfl)⟩
 case round=>
  clear M1;obtain⟨k,qb,l,lb,hk,rfl,rfl,hl,hM⟩:=hrel;have HM:=hM;have a:=xQ hl;clear hM hl;by_cases hlt:k<F
  ·obtain⟨u,hu⟩: ∃u,fr[k]? =some u:=⟨_,aQo (by rw[hF.out];exact hlt)⟩
   have g:u<n:=r.out u (aQq hu);obtain⟨gf,rfl,ai,ab⟩:=HM.so 1;have cu:wr.cell? ⟨gf,k,none⟩=some (I u):=by have:=(HM.ow 1).cellAt k (by omega);rw[this];simp[ivs,bF,hu]
   obtain⟨b,d⟩:=zP hg.out (l:=fr.take k) (fun x hx=>r.out x (aSc hx)) g;rw[←bC hu,←a.out]at b d;obtain⟨k1,k2,k3⟩:=kH hg.out g;obtain⟨W,hW⟩: ∃W,W=(dD aA n 12 u).length:=⟨_,rfl⟩
   rw[←hW]at k1 k2 b d;have m:=xQ b;have z:=xQ d;have f:=xQ hW;have HC:=xQ (fun w' (hx:Ext w w')=>j u g w' hx);clear hu b d hW k3;have i1:(0:Int)≤(k:Int):=by omega
   have i2:(k:Int)<(F:Int):=by omega
   go_wp2;refine rL (gl [gEq (.agg #[aA,aB,.slice p n cap]),gEq (.slice (some ⟨gf,0,none⟩) F c1),gEq (k:Int),gEq (.pointer (some ⟨gf,k,none⟩)),gEq (u:Int),gEq (I 0),gEq (-1:Int),(fun v w'=> ∃q c,v= .slice q (W) c∧w'.ownsRow wr TI 1 (.slice q (W) c) (W) (ivs (bF (dD aA n 12 u))))]) 8 9 [(0,some 20),(1,some 21),(2,some 22),(3,some 23),(4,some 24),(5,some 25),(6,some 26),(7,some 27)] ?steps ?fin (hG:=(kY (bE (bK _) (bE (bK _) (bE (bK _) (bE (bK _) (bE (bK _) (bE (bK _) (bE (bK _) (bE (fun v w w' ⟨q,c,he,ho⟩ hx=>⟨q,c,he,bB ho hx⟩) (nX)))))))))))
   case steps=>
    refine sC [] rfl (fun wi hx=> ?_) ?_
    ·intro K hK;have hX:=hx.of_drew;obtain⟨aa,ag,ah⟩:=((HM.bk 2).ext hX).tri;go_simp;exact hK _ _ ⟨.agg #[aA,aB,.slice p n cap],rfl,rfl,Ext.refl _⟩
    refine sS0 [] (sS0 [] (sS2 [(1,some 21),(2,some 22)] ?_));refine sC [(3,some 23)] rfl (fun wi hx=> ?_) ?_
    ·intro v3 h3 K hK;obtain rfl:=h3;have hX:=hx.of_drew;have aa:wi.cell? ⟨gf,k,none⟩=some (I u):=(hX.cells.1 _ _ ab).trans cu;go_simp;exact hK _ _ ⟨I u,rfl,rfl,Ext.refl _⟩
    refine sS0 [] (sS0 [] ?_);refine sC [(0,some 20),(4,some 24),(5,some 25),(6,some 26)] rfl (fun wi hx=> ?_) StepsL.nil
    ·intro v0 h0 v4 h4 v5 h5 v6 h6 K hK;subst h0 h4 h5 h6;have hX:=hx.of_drew;go_wp2_with fail;refine(HC _ (HM.ext.trans hX)).mono ?_;rintro e w5 ⟨q5,c5,rfl,o5,ae⟩;have ad:(bF (dD aA n 12 u)).length=W:=by rw[f.out];simp[bF]
     rw[ad]at o5⊢;go_simp;exact hK _ _ ⟨.slice q5 (W) c5,rfl,⟨q5,c5,rfl,bI o5 (by have:=hX.sz;simpa using this)⟩,ae⟩
   case fin=>
    intro wi hx v0 h0 v1 h1 v2 h2 v3 h3 v4 h4 v5 h5 v6 h6 v7 h7;subst h0 h1 h2 h3 h4 h5 h6;obtain⟨q7,c7,rfl,t⟩:=h7;have hX:Ext wr wi:=hx.of_drew;have M1:=(show Mem w wi [aI w TI 1 (q7) (W) (c7) (ivs (bF (dD aA n 12 u))),aI w TI 1 (qb) (l) (lb) (ivs (bF (lI aA n (dE aA (fr.take k))))),aI w TI 1 (some ⟨gf,0,none⟩) (F) (c1) (ivs (bF fr)),aJ w w TH3 #[aA,aB,.slice p n cap]]from HM.ownNew hX t (aQn _))
    clear HM;try go_frame
    refine wpAny_ready (rs:= [8]) (by kernel_rfl) (by simp) ?_;refine AllReady.cons rfl (fun K hK=> ?_) AllReady.nil;go_simp;refine hK _ _ ?_;clear hK K;refine wpAny_done (by kernel_rfl) ?_ _;try go_frame
    clear hx hX cu t HC;by_cases h0:l=0
    ·have hn:=xQ (m (.inl h0));have t1:((l:Int)==0)=true:=by simp[h0]
     clear h0;go_wp2;go_roundw
     case rel=>exact⟨k+1,q7,W,c7,by omega,by go_num,rfl,by rw[hn.out];exact f.out,by rw[hn.out];exact(M1.pick [0,2,3] (by decide) rfl)⟩
     case measure=>simp[intOf];omega
    have t1:((l:Int)==0)=false:=by simp[h0]
    by_cases h1:W<l
    ·have hn:=xQ (m (.inr h1));go_wp2;go_roundw
     case rel=>exact⟨k+1,q7,W,c7,by omega,by go_num,rfl,by rw[hn.out];exact f.out,by rw[hn.out];exact(M1.pick [0,2,3] (by decide) rfl)⟩
     case measure=>simp[intOf];omega
    have hn:=xQ (z (fun h=>h.elim h0 h1));go_wp2;go_roundw
    case rel=>exact⟨k+1,qb,l,lb,by omega,by go_num,rfl,by rw[hn.out];exact a.out,by rw[hn.out];exact(M1.pick [1,2,3] (by decide) rfl)⟩
    case measure=>simp[intOf];omega
  obtain rfl:F=k:=by omega
  have o:Hid (fr.take F=fr):=by show _=_;rw[aQu (by rw[hF.out];omega)]
  go_wp2;go_ret;rw[o.out]at a HM;exact dC (by rw[aRb];exact a.out.symm) (HM.ow 0) HM.ext
theorem qL (aA aB:Int)(p:OA)(n cap:Nat)(xs:List Int)(w:World)(hS:Sl w p n cap 1 (ivs xs))(a:aO aA aB xs=true):
  U 137 #[aH aA aB p n cap,(),(-1:Int)] w (aY (bF (lI aA n (dE aA (bP xs)))) w):=by
 have hl:=hS.ilen;subst hl;obtain⟨g1,g2,g3,g4,g5,g6,g7⟩:=cC (cP a);have b:(bP xs).length≤12:=by unfold bP;exact aQy (aRr _ _) (by simp;omega)
 refine aF9 aA aB p xs.length cap (bP xs) _ w (kA a) g6 rfl b (fun x hx=>(kD hx).1) (fun w' hy=> ?_) (fun u hu w' hy=>aAi aA aB p xs.length cap u xs w' (hS.ext hy) a hu);have:=aFi aA aB p xs.length cap xs w' (hS.ext hy);rw[a,if_pos rfl,xM]at this;refine this.mono fun e w'' h=> ?_
 obtain⟨q,c,h1,h2,h3⟩:=h;rw[aRb]at h1 h2;exact⟨q,c,h1,h2,h3⟩
def pM (r:Option (List Int×List Sl2))(w:World)(e:Ending)(w':World):Prop:=
 match r with
 |none=> ∃v,e= .returned (.tuple #[v,.bool false])∧Ext w w'
 |some r=> ∃q c,e= .returned (.tuple #[.slice q r.2.length c,.bool true])∧w'.ownsRow w.heap.size TSL 2 (.slice q r.2.length c) r.2.length (r.2.flatMap aL)∧Ext w w'
theorem aIz (aA aB:Int)(p:OA)(n cap:Nat)(w:World)
  (HV:xB 48 #[aH aA aB p n cap] w true)
  (HN:xC 137 #[aH aA aB p n cap,(),(-1:Int)] w fun w' e w''=> ∃q c,e= .returned (.slice q 0 c)∧w''.ownsRow w' TI 1 (.slice q 0 c) 0 []∧Ext w' w''):
  U 101 #[aH aA aB p n cap] w (pM none w):=by
 go_enter func101,ntmps101;have ME:=(((Mem.start w).c0 TH3 #[aA,aB,.slice p n cap]).made0 TI 1 (w.heap.size+1) (by simp))
 go_wp2_with fail;refine Z (HV _ ME.ext) fun w1 b=>?_
 have M1:=(ME.adv b)
 clear ME b;obtain⟨f,g,h⟩:=(M1.bk 1).tri;go_wp2_with fail;clear f g h;refine(HN _ M1.ext).mono ?_;rintro e w2 ⟨qw,cw,rfl,a,d⟩;have M2:=(M1.call d a)
 clear M1 d a;have HX:=xQ (M2.ext);go_wp2;exact bodyPost_ret (v:= .tuple #[.slice (some ⟨w2,0,none⟩) 0 0,.bool false]) (by simp[results,results101,go_sem, *]) rfl ⟨_,rfl,by have:=HX.out;exact .alloc this _⟩
theorem aFo (aA aB:Int)(p:OA)(n cap:Nat)(i:List Nat)(W:Nat)(r:List Int×List Sl2)(w:World)(h0:0<W)
  (HV:xB 48 #[aH aA aB p n cap] w true)
  (HN:xC 137 #[aH aA aB p n cap,(),(-1:Int)] w fun w' e w''=> ∃q c,e= .returned (.slice q W c)∧w''.ownsRow w' TI 1 (.slice q W c) W (ivs (bF i))∧Ext w' w'')
  (HS:Hid (∀w' q c,Ext w w'→Sl w' q W c 1 (ivs (bF i))→U 138 #[aH aA aB p n cap,.slice q W c] w' (iD r.2 w'))):
  U 101 #[aH aA aB p n cap] w (pM (some r) w):=by
 have t0:((W:Int)==0)=false:=by simp;omega
 go_enter func101,ntmps101;have ME:=(((Mem.start w).c0 TH3 #[aA,aB,.slice p n cap]).made0 TI 1 (w.heap.size+1) (by simp))
 go_wp2_with fail;refine Z (HV _ ME.ext) fun w1 g=>?_
 have M1:=(ME.adv g)
 clear ME g;obtain⟨a,b,d⟩:=(M1.bk 1).tri;go_wp2_with fail;clear a b d;refine(HN _ M1.ext).mono ?_;rintro e w2 ⟨qw,cw,rfl,f,h⟩;have M2:=(M1.call h f)
 clear M1 h f;obtain⟨a,b,d⟩:=(M2.bk 2).tri;go_wp2_with fail;clear a b d;have HH:=xQ (HS _ qw cw M2.ext (M2.sq 0));refine HH.out.mono ?_;rintro e w9 ⟨q9,c9,rfl,o9,j⟩;have HX:=xQ (M2.ext);go_wp2;exact bodyPost_ret (v:= .tuple #[.slice q9 r.2.length c9,.bool true]) (by simp[results,results101,go_sem, *]) rfl ⟨q9,c9,rfl,bI o9 HX.out.sz,HX.out.trans j⟩
theorem yY (aA aB:Int)(p:OA)(n cap:Nat)(xs:List Int)(w:World)(hS:Sl w p n cap 1 (ivs xs))(a:aO aA aB xs=true):
  U 101 #[aH aA aB p n cap] w (pM (iC aA xs) w):=by
 have hl:=hS.ilen;subst hl;have hg:=kA a;have HV: ∀w',Ext w w'→U 48 #[aH aA aB p xs.length cap] w' (O (.bool true) w'):=fun w' hy=>by have:=gE aA aB p xs.length cap xs w' (hS.ext hy);rwa[a]at this
 unfold iC;cases hn:dE aA (bP xs)with
 |none=>refine aIz aA aB p xs.length cap w HV (fun w' hy=> ?_);have:=qL aA aB p xs.length cap xs w' (hS.ext hy) a;rw[hn]at this;exact this
 |some u=>
  obtain⟨hu,b⟩:=kD ((kK aA _).2 u hn);obtain⟨k1,k2,k3⟩:=kH hg hu;refine aFo aA aB p xs.length cap (dD aA xs.length 12 u) _ (cG xs u (dD aA xs.length 12 u).tail) w k1 HV (fun w' hy=> ?_) (fun w' q c hy hL=>xI aA aB p xs.length cap xs q _ c u w' (hS.ext hy) a hu b hL);have:=qL aA aB p xs.length cap xs w' (hS.ext hy) a;rw[hn]at this;refine this.mono fun e w'' h=> ?_
  obtain⟨q,c,h1,h2,h3⟩:=h;simp only[lI,aRb]at h1 h2;exact⟨q,c,h1,h2,h3⟩
def cJ (aA aB:Int)(xs:List Int)(id:Int):List Int×Int:=
 match lY aA aB xs id with
 |none=>(xs,-1)
 |some r=>(r.1,(r.2:Int))
theorem aAo (aA aB id:Int)(p:OA)(n cap:Nat)(xs:List Int)(w:World)(f:Hid (xs.length=n))
  (HV:xB 48 #[aH aA aB p n cap] w true)
  (HC:xC 101 #[aH aA aB p n cap] w fun w' e w''=> ∃v,e= .returned (.tuple #[v,.bool false])∧Ext w' w'')
  (HL:xC 65 #[aH aA aB p n cap] w fun w' e w''=> ∃q c,e= .returned (aH aA aB q n c)∧w''.ownsRow w' TI 1 (.slice q n c) n (ivs xs)∧Ext w' w''):
  U 56 #[aH aA aB p n cap,id] w (cR aA aB xs (-1) w):=by
 go_enter func56,ntmps56;go_wp2_with fail;refine Z (HV _ (((Mem.start w).c0 TH3 #[aA,aB,.slice p n cap]).c1 TH3 #[(),(),((),())]).ext) fun w1 i=>?_
 have M1:=((((Mem.start w).c0 TH3 #[aA,aB,.slice p n cap]).c1 TH3 #[(),(),((),())]).adv i)
 clear i;obtain⟨a,b,d⟩:=(M1.bk 1).tri;go_wp2_with fail;clear a b d;refine(HC _ M1.ext).mono ?_;rintro e w2 ⟨v,rfl,j⟩;have M2:=(M1.adv j)
 clear M1 j;obtain⟨a,b,d⟩:=(M2.bk 1).tri;go_wp2_with fail;clear a b d;refine(HL _ M2.ext).mono ?_;rintro e w3 ⟨q0,c0,rfl,g,k⟩;have M3:=(M2.call k g)
 clear M2 k g;obtain⟨z0,l,z1,m,z2,o⟩:=(M3.bk 1).trif;go_wp2;clear z0 l z1 m z2 o;have M4:=(((M3.st 1 0 (I aA)).st 1 1 (I aB)).st 1 2 (.slice q0 n c0))
 generalize h:World.setCell _ _ _=wz;rw[h]at M4;clear h M3;obtain⟨r,s,t⟩:=(M4.bk 1).tri;exact bodyPost_ret (v:= .tuple #[.agg #[aA,aB,.slice q0 n c0],(-1:Int)]) (by simp[results,results56,go_sem, *]) rfl (eR f.out (M4.ow 0) M4.ext)
theorem aF5 (aA aB id:Int)(p:OA)(n cap K:Nat)(xs ys zs:List Int)(sl:List Sl2)(w:World)(g:Hid (xs.length=n))
  (HV:xB 48 #[aH aA aB p n cap] w true)
  (HC:xC 101 #[aH aA aB p n cap] w fun w' e w''=> ∃q c,e= .returned (.tuple #[.slice q K c,.bool true])∧w''.ownsRow w' TSL 2 (.slice q K c) K (sl.flatMap aL)∧Ext w' w'')
  (HR:Hid (∀w' q c,Ext w w'→Sl w' q K c 2 (sl.flatMap aL)→U 102 #[aH aA aB p n cap,.slice q K c] w' fun e w''=> ∃q c,e= .returned (.tuple #[aH aA aB q n c,K])∧w''.ownsRow w' TI 1 (.slice q n c) n (ivs ys)∧Ext w' w''))
  (HP:Hid (∀w' q c,Ext w w'→Sl w' q n c 1 (ivs ys)→U 103 #[aH aA aB q n c,(),id] w' fun e w''=> ∃q c,e= .returned (.tuple #[aH aA aB q n c,.bool false])∧w''.ownsRow w' TI 1 (.slice q n c) n (ivs zs)∧Ext w' w''))
  (HL:xC 65 #[aH aA aB p n cap] w fun w' e w''=> ∃q c,e= .returned (aH aA aB q n c)∧w''.ownsRow w' TI 1 (.slice q n c) n (ivs xs)∧Ext w' w''):
  U 56 #[aH aA aB p n cap,id] w (cR aA aB xs (-1) w):=by
 go_enter func56,ntmps56;go_wp2_with fail;refine Z (HV _ (((Mem.start w).c0 TH3 #[aA,aB,.slice p n cap]).c1 TH3 #[(),(),((),())]).ext) fun w1 m=>?_
 have M1:=((((Mem.start w).c0 TH3 #[aA,aB,.slice p n cap]).c1 TH3 #[(),(),((),())]).adv m)
 clear m;obtain⟨a,b,d⟩:=(M1.bk 1).tri;go_wp2_with fail;clear a b d;refine(HC _ M1.ext).mono ?_;rintro e w2 ⟨qs,cs,rfl,h,o⟩;have M2:=(M1.call o h)
 clear M1 o h;obtain⟨a,b,d⟩:=(M2.bk 2).tri;go_wp2_with fail;clear a b d;refine(HR _ qs cs M2.ext (M2.sq 0)).mono ?_;rintro e w3 ⟨q1,c1,rfl,i,r⟩;have M3:=(M2.call r i)
 clear M2 r i;go_wp2_with fail;refine(HP _ q1 c1 (M3.c0 TH3 #[aA,aB,.slice q1 n c1]).ext ((M3.c0 TH3 #[aA,aB,.slice q1 n c1]).sq 1)).mono ?_;rintro e w4 ⟨q2,c2,rfl,j,s⟩;have M4:=((M3.c0 TH3 #[aA,aB,.slice q1 n c1]).call s j)
 clear M3 s j;have f:=M4.hi 5;obtain⟨a,b,d⟩:=(M4.bk 5).tri;go_wp2_with fail;clear a b d;refine(HL _ (M4.c0 TH3 #[aA,aB,.slice q2 n c2]).ext).mono ?_;rintro e w5 ⟨q0,c0,rfl,k,t⟩;have M5:=((M4.c0 TH3 #[aA,aB,.slice q2 n c2]).call t k)
 clear M4 f t k;obtain⟨z0,u,z1,x,z2,y⟩:=(M5.bk 6).trif;go_wp2;clear z0 u z1 x z2 y;have M6:=(((M5.st 6 0 (I aA)).st 6 1 (I aB)).st 6 2 (.slice q0 n c0))
 generalize l:World.setCell _ _ _=wz;rw[l]at M6;clear l M5;obtain⟨z,aa,ab⟩:=(M6.bk 6).tri;exact bodyPost_ret (v:= .tuple #[.agg #[aA,aB,.slice q0 n c0],(-1:Int)]) (by simp[results,results56,go_sem, *]) rfl (eR g.out (M6.ow 0) M6.ext)
theorem aCo (aA aB id:Int)(p:OA)(n cap K:Nat)(ys zs:List Int)(sl:List Sl2)(w:World)(f:Hid (zs.length=n))
  (HV:xB 48 #[aH aA aB p n cap] w true)
  (HC:xC 101 #[aH aA aB p n cap] w fun w' e w''=> ∃q c,e= .returned (.tuple #[.slice q K c,.bool true])∧w''.ownsRow w' TSL 2 (.slice q K c) K (sl.flatMap aL)∧Ext w' w'')
  (HR:Hid (∀w' q c,Ext w w'→Sl w' q K c 2 (sl.flatMap aL)→U 102 #[aH aA aB p n cap,.slice q K c] w' fun e w''=> ∃q c,e= .returned (.tuple #[aH aA aB q n c,K])∧w''.ownsRow w' TI 1 (.slice q n c) n (ivs ys)∧Ext w' w''))
  (HP:Hid (∀w' q c,Ext w w'→Sl w' q n c 1 (ivs ys)→U 103 #[aH aA aB q n c,(),id] w' fun e w''=> ∃q c,e= .returned (.tuple #[aH aA aB q n c,.bool true])∧w''.ownsRow w' TI 1 (.slice q n c) n (ivs zs)∧Ext w' w'')):
  U 56 #[aH aA aB p n cap,id] w (cR aA aB zs (K:Int) w):=by
 go_enter func56,ntmps56;go_wp2_with fail;refine Z (HV _ (((Mem.start w).c0 TH3 #[aA,aB,.slice p n cap]).c1 TH3 #[(),(),((),())]).ext) fun w1 k=>?_
 have M1:=((((Mem.start w).c0 TH3 #[aA,aB,.slice p n cap]).c1 TH3 #[(),(),((),())]).adv k)
 clear k;obtain⟨a,b,d⟩:=(M1.bk 1).tri;go_wp2_with fail;clear a b d;refine(HC _ M1.ext).mono ?_;rintro e w2 ⟨qs,cs,rfl,g,l⟩;have M2:=(M1.call l g)
 clear M1 l g;obtain⟨a,b,d⟩:=(M2.bk 2).tri;go_wp2_with fail;clear a b d;refine(HR _ qs cs M2.ext (M2.sq 0)).mono ?_;rintro e w3 ⟨q1,c1,rfl,h,m⟩;have M3:=(M2.call m h)
 clear M2 m h;go_wp2_with fail;refine(HP _ q1 c1 (M3.c0 TH3 #[aA,aB,.slice q1 n c1]).ext ((M3.c0 TH3 #[aA,aB,.slice q1 n c1]).sq 1)).mono ?_;rintro e w4 ⟨q2,c2,rfl,i,o⟩;have M4:=((M3.c0 TH3 #[aA,aB,.slice q1 n c1]).call o i)
 clear M3 o i;have r:=M4.hi 4;obtain⟨z0,s,z1,t,z2,u⟩:=(M4.bk 4).trif;go_wp2;clear z0 s z1 t z2 u;have M5:=((((M4.st 4 0 (I aA)).st 4 1 (I aB)).st 4 2 (.slice q2 n c2)).bn TH3 #[aA,aB,.slice q2 n c2] w4)
 generalize j:World.alloc _ _=wz;rw[j]at M5;clear j M4;obtain⟨x,y,z⟩:=(M5.bk 5).tri;exact bodyPost_ret (v:= .tuple #[.agg #[aA,aB,.slice q2 n c2],K]) (by simp[results,results56,go_sem, *]) rfl (eR f.out (M5.ow 1) M5.ext)
theorem mG (aA aB:Int)(xs:List Int)(id:Int):(cW aA aB xs id).1.length=xs.length:=by unfold cW;split<;>simp
theorem aCl (aA aB id:Int)(p:OA)(n cap:Nat)(xs:List Int)(w:World)(hS:Sl w p n cap 1 (ivs xs))(a:aO aA aB xs=true):
  U 56 #[aH aA aB p n cap,id] w (cR aA aB (cJ aA aB xs id).1 (cJ aA aB xs id).2 w):=by
 have hl:=hS.ilen;subst hl;obtain⟨g1,g2,g3,g4,g5,g6,g7⟩:=cC (cP a);have HV: ∀w',Ext w w'→U 48 #[aH aA aB p xs.length cap] w' (O (.bool true) w'):=fun w' hy=>by have:=gE aA aB p xs.length cap xs w' (hS.ext hy);rwa[a]at this
 have HL:=fun(w':World) (hy:Ext w w')=>fR aA aB p xs.length cap xs w' (by omega) (hS.ext hy)
 have HC:=fun(w':World) (hy:Ext w w')=>yY aA aB p xs.length cap xs w' (hS.ext hy) a
 cases hr:iC aA xs with
 |none=>
  have e:cJ aA aB xs id=(xs,-1):=by unfold cJ lY;rw[hr]
  rw[e];rw[hr]at HC;exact aAo aA aB id p xs.length cap xs w rfl HV HC HL
 |some r=>
  rw[hr]at HC;obtain⟨f1,f2,f3,f4,f5⟩:=pG a hr;have HR: ∀w' q c,Ext w w'→Sl w' q r.2.length c 2 (r.2.flatMap aL)→U 102 #[aH aA aB p xs.length cap,.slice q r.2.length c] w' fun e w''=> ∃q c,e= .returned (.tuple #[aH aA aB q xs.length c,(r.2.length:Int)])∧w''.ownsRow w' TI 1 (.slice q xs c) xs.length (ivs r.1)∧Ext w' w'':=fun w' q c hy hL=>by have:=rN aA aB p xs.length cap xs q r.2.length c r.2 w' (by omega) (hS.ext hy) hL a;rw[f1]at this;unfold cR at this;dsimp only at this;rw[f3]at this;exact this
  have HP: ∀w' q c,Ext w w'→Sl w' q xs.length c 1 (ivs r.1)→U 103 #[aH aA aB q xs.length c,(),id] w' fun e w''=> ∃q c,e= .returned (.tuple #[aH aA aB q xs.length c,.bool (cW aA aB r.1 id).2])∧w''.ownsRow w' TI 1 (.slice q xs c) xs.length (ivs (cW aA aB r.1 id).1)∧Ext w' w'':=fun w' q c hy hL=>by have:=aEe aA aB id q xs.length c r.1 w' hL f2;unfold cT at this;rw[mG,f3]at this;exact this
  cases hb:(cW aA aB r.1 id).2 with
  |false=>
   have e:cJ aA aB xs id=(xs,-1):=by simp[cJ,lY,hr,hb]
   rw[e];rw[hb]at HP;exact aF5 aA aB id p xs.length cap r.2.length xs r.1 (cW aA aB r.1 id).1 r.2 w rfl HV HC HR HP HL
  |true=>
   have e:cJ aA aB xs id=((cW aA aB r.1 id).1,(r.2.length:Int)):=by simp[cJ,lY,hr,hb]
   rw[e];rw[hb]at HP;exact aCo aA aB id p xs.length cap r.2.length r.1 (cW aA aB r.1 id).1 r.2 w (show _=_ by rw[mG,f3]) HV HC HR HP
end
end Go.Proofs.YtbgkcehffiogcacGreatDoor
