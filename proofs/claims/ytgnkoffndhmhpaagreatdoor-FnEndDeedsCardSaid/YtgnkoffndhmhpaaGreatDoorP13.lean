/-
  Texts of this proof, packed (@packed).
-/
import Derived.Test.YtgnkoffndhmhpaaGreatDoorP4
import Derived.Test.YtgnkoffndhmhpaaGreatDoorP5
import Derived.Test.YtgnkoffndhmhpaaGreatDoorP12
namespace Go.Proofs.YtgnkoffndhmhpaaGreatDoor
open Go.RowKit
set_option linter.unusedVariables false
set_option linter.unusedSimpArgs false
set_option maxHeartbeats 8000000
set_option maxRecDepth 100000
theorem mJ (a b:Int): ∀u∈aK (a,b),u.oneCell'=true:=by
 intro u hu
 simp[aK]at hu
 rcases hu with rfl|rfl<;>rfl
theorem aHl (aA aB:Int)(pb po:Nat)(n cap:Nat)(xs:List Int)(b off m c2 u:Nat)(ws0 ws:List Nat)(w:World)(hn0:4≤n)(hn:n≤12)(hm0:0<m)(hm:m≤12)(HWS:Hid (ws=u::ws0))(hwl:Hid (ws.length=m))(hb:b<w.heap.size)(hpb:pb<w.heap.size)
  (hok:Hid (aN aA aB xs=true))(hlen:Hid (xs.length=n))(hu:u<n)(hu0:Hid (xs.getD u 0=0))(hst:Hid (mH aA n u ws0))
  (HS:Hid (∀(k x:Nat),ws[k]? =some x→w.cell? ⟨b,off+k,none⟩=some (.int .i64 (x:Int)))) (cu0:w.cell? ⟨b,off,none⟩=some (.int .i64 (u:Int))) (cp0:w.cell? ⟨pb,po+u,none⟩=some (.int .i64 0))
  (HW:xB 181 #[aH aA aB (some ⟨pb,po,none⟩) n cap,.slice (some ⟨b,off,none⟩) m c2] w true)
  (HL:xC 104 #[aH aA aB (some ⟨pb,po,none⟩) n cap] w fun w' e w''=> ∃q c,e= .returned (aH aA aB q n c)∧w''.ownsRow w'.heap.size TI 1 (.slice q n c) n (ivs xs)∧Ext w' w''):
  Calls Tryz.prog 155 #[aH aA aB (some ⟨pb,po,none⟩) n cap,.slice (some ⟨b,off,none⟩) m c2] w (eY (cF xs u ws0).2 w):=by
 have j1:(0:Int)≤(u:Int):=by omega
 have j2:(u:Int)<(n:Int):=by omega
 have j3:(0:Int)<(m:Int):=by omega
 go_enter Tryz.func155,Tryz.ntmps155
 go_wp2
 have ME:=(((Mem.start w).bn TH3 #[aA,aB,.slice (some ⟨pb,po,none⟩) n cap] (w.heap.size)).made0 TSL 2 (w.heap.size+1) (by simp))
 have X0:=xQ (show Ext w ((w.alloc (.cells #[aA,aB,.slice (some ⟨pb,po,none⟩) n cap] TH3)).alloc (.cells #[] TSL))from ME.ext)
 refine rL (gl [gEq (.agg #[aA,aB,.slice (some ⟨pb,po,none⟩) n cap]),gEq (.slice (some ⟨b,off,none⟩) m c2),gEq (.bool true),gEq (.bool false),gEq (.bool false),gEq (.pointer (some ⟨w.heap.size,2,none⟩)),gEq (.slice (some ⟨pb,po,none⟩) n cap),gEq (.slice (some ⟨b,off,none⟩) m c2),gEq (.pointer (some ⟨b,off,none⟩)),gEq (u:Int),gEq (.pointer (some ⟨pb,po+u,none⟩)),gEq (.int .i64 0),gEq (.bool false),gEq (.bool false)]) 14 14 [(0,some 12),(1,some 13),(2,some 14),(3,some 15),(4,some 16),(5,some 17),(6,some 18),(7,some 19),(8,some 20),(9,some 21),(10,some 22),(11,some 23),(12,some 24),(13,some 25)] ?steps ?fin
 case steps=>
  refine sC [] rfl (fun wi hx=> ?_) ?_
  ·intro K hK
   have hX:Ext ((w.alloc (.cells #[aA,aB,.slice (some ⟨pb,po,none⟩) n cap] TH3)).alloc (.cells #[] TSL)) wi:=by exact .trans (.drew (.refl _)) hx
   obtain⟨t,b2,bx⟩:=((ME.bk 1).ext hX).tri
   go_simp
   exact hK _ _ ⟨.agg #[aA,aB,.slice (some ⟨pb,po,none⟩) n cap],rfl,rfl,Ext.refl _⟩
  refine sS0 [] ?_
  refine sC [(0,some 12),(1,some 13)] rfl (fun wi hx=> ?_) ?_
  ·intro v0 h0 v1 h1 K hK
   obtain rfl:=h0
   obtain rfl:=h1
   have hX:Ext w wi:=by exact .trans (.drew (.alloc (.alloc (.refl _) _) _)) hx
   go_wp2_with fail
   refine(HW _ hX).mono ?_
   rintro e w5 ⟨rfl,ad⟩
   go_simp
   exact hK _ _ ⟨.bool true,rfl,rfl,ad⟩
  refine sS1 [(2,some 14)] (sS1 [(3,some 15)] (sS1 [(4,some 16)] ?_))
  refine sC [(4,some 16),(5,some 17)] rfl (fun wi hx=> ?_) ?_
  ·intro v4 h4 v5 h5 K hK
   obtain rfl:=h4
   obtain rfl:=h5
   have hX:Ext ((w.alloc (.cells #[aA,aB,.slice (some ⟨pb,po,none⟩) n cap] TH3)).alloc (.cells #[] TSL)) wi:=by exact .trans (.drew (.refl _)) hx
   have t:=((ME.bk 1).ext hX).cl 2
   go_simp
   exact hK _ _ ⟨.slice (some ⟨pb,po,none⟩) n cap,rfl,rfl,Ext.refl _⟩
  refine sS1 [(4,some 16)] (sS2 [(4,some 16),(7,some 19)] ?_)
  refine sC [(4,some 16),(8,some 20)] rfl (fun wi hx=> ?_) ?_
  ·intro v4 h4 v8 h8 K hK
   obtain rfl:=h4
   obtain rfl:=h8
   have hX:Ext ((w.alloc (.cells #[aA,aB,.slice (some ⟨pb,po,none⟩) n cap] TH3)).alloc (.cells #[] TSL)) wi:=by exact .trans (.drew (.refl _)) hx
   have t:wi.cell? ⟨b,off,none⟩=some (.int .i64 (u:Int)):=(X0.out.trans hX).cells.1 _ _ hb |>.trans cu0
   go_simp
   exact hK _ _ ⟨.int .i64 (u:Int),rfl,rfl,Ext.refl _⟩
  refine sS3 [(4,some 16),(6,some 18),(9,some 21)] ?_
  refine sC [(4,some 16),(10,some 22)] rfl (fun wi hx=> ?_) ?_
  ·intro v4 h4 be s K hK
   obtain rfl:=h4
   obtain rfl:=s
   have hX:Ext ((w.alloc (.cells #[aA,aB,.slice (some ⟨pb,po,none⟩) n cap] TH3)).alloc (.cells #[] TSL)) wi:=by exact .trans (.drew (.refl _)) hx
   have t:wi.cell? ⟨pb,po+u,none⟩=some (.int .i64 0):=(X0.out.trans hX).cells.1 _ _ hpb |>.trans cp0
   go_simp
   exact hK _ _ ⟨.int .i64 0,rfl,rfl,Ext.refl _⟩
  exact sS2 [(4,some 16),(11,some 23)] (sS2 [(4,some 16),(12,some 24)] StepsL.nil)
 case fin=>
  intro wi hx v0 h0 v1 h1 v2 h2 v3 h3 v4 h4 v5 h5 v6 h6 v7 h7 v8 h8 v9 h9 be s b1 bs bw br bu bh
  obtain rfl:=h0
  obtain rfl:=h1
  obtain rfl:=h2
  obtain rfl:=h3
  obtain rfl:=h4
  obtain rfl:=h5
  obtain rfl:=h6
  obtain rfl:=h7
  obtain rfl:=h8
  obtain rfl:=h9
  obtain rfl:=s
  obtain rfl:=bs
  obtain rfl:=br
  obtain rfl:=bh
  refine wpAny_done (by kernel_rfl) ?_ _
  try simp only[Act.put,List.setIfInBounds_toArray,List.set_cons_zero,List.set_cons_succ]
  have hX:Ext ((w.alloc (.cells #[aA,aB,.slice (some ⟨pb,po,none⟩) n cap] TH3)).alloc (.cells #[] TSL)) wi:=hx.of_drew
  have M1:=(ME.adv hX)
  clear ME X0 hx hX
  have j:=M1.hi 1
  obtain⟨c0,c1,c2⟩:=(M1.bk 1).tri
  go_wp2_with fail
  clear c0 c1 c2
  refine(HL _ M1.ext).mono ?_
  rintro e w2 ⟨q0,c0,rfl,a3,a1⟩
  have M2:=(M1.call a1 a3)
  clear M1 j a1 a3 HW
  have av:=M2.hi 2
  have a4:=xQ (M2.bn TH3 #[aA,aB,.slice q0 n c0] (w2.heap.size))
  go_wp2
  go_loopw [5,7] (fun v i wr=> ∃(k x:Nat) (rest:List Nat) (ys:List Int) (q:OA) (c:Nat) (q5:OA) (l lc:Nat) (sl:List Sl2),1≤k∧k≤m∧i= .int .i64 k∧v= .slice q5 l lc∧l=sl.length∧l≤k∧ws.drop (k-1)=x::rest∧aN aA aB ys=true∧ys.length=n∧x<n∧ys.getD x 0=0∧mH aA n x rest∧sl++(cF ys x rest).2=(cF xs u ws0).2∧Mem w wr [aI w.heap.size (w2.heap.size) TH3 #[aA,aB,.slice q n c],aJ w.heap.size TI 1 (q) (n) (c) (ivs ys),aJ w.heap.size TSL 2 (q5) (l) (lc) (sl.flatMap aK),aI w.heap.size (w.heap.size) TH3 #[aA,aB,.slice (some ⟨pb,po,none⟩) n cap]]) (fun _ i _=>m-(intOf i).toNat)
  case atStart=>exact⟨1,u,ws0,xs,q0,c0,some ⟨w.heap.size+1,0,none⟩,0,0,[],Nat.le_refl _,by omega,rfl,rfl,rfl,by omega,by rw[HWS.out];rfl,hok.out,hlen.out,hu,hu0.out,hst.out,rfl,a4.out⟩
  case round=>
   clear a4 M2 av
   obtain⟨k,x,rest,ys,q,c,q5,l,lc,sl,b0,hk,rfl,rfl,hl,bz,a8,ak,a0,an,bc,aj,ah,hM⟩:=hrel
   have ae:=xQ a8
   have h:=xQ ak
   have f:=xQ a0
   have au:=xQ bc
   have p:=xQ aj
   have ab:=xQ ah
   have ao:=xQ hl
   have HM:=hM
   clear a8 ak a0 bc aj ah hM hl
   by_cases hlt:k<m
   ·obtain⟨y,rest',o⟩: ∃y rest',rest=y::rest':=by
     have h1:=congrArg List.length ae.out
     rw[List.length_drop,hwl.out]at h1
     cases rest with
     |nil=>simp at h1;omega
     |cons y r=>exact⟨y,r,rfl⟩
    subst o
    have bb:ws[k-1]? =some x:=by have:=congrArg (fun z=>z[0]?) ae.out;simpa using this
    have aa:ws.drop k=y::rest':=by
     have:=congrArg List.tail ae.out
     rw[List.tail_drop,show k-1+1=k by omega]at this
     exact this
    have a6:ws[k]? =some y:=by have:=congrArg (fun z=>z[0]?) aa;simpa using this
    have al:=xQ aa
    have aq:y∈aT aA n x:=p.out.1
    have a9:y<n:=(bR.1 aq).1
    have ax:=xQ aq
    have ag:=HM.ext
    have ca:wr.cell? ⟨b,off+(k-1),none⟩=some (.int .i64 (x:Int)):=(ag.cells.1 _ _ hb).trans (HS (k-1) x bb)
    have cb:wr.cell? ⟨b,off+k,none⟩=some (.int .i64 (y:Int)):=(ag.cells.1 _ _ hb).trans (HS k y a6)
    have a2:b<wr.heap.size:=Nat.lt_of_lt_of_le hb ag.sz
    clear aa aq bb a6 ag
    have i1:(0:Int)≤(k:Int):=by omega
    have i2:(k:Int)<(m:Int):=by omega
    have i3:(k:Int)-1<(m:Int):=by omega
    have i4:((k:Int)-1).toNat=k-1:=by omega
    have i5:(1:Int)≤(k:Int):=by omega
    go_wp2
    refine rL (gl [gEq (.slice (some ⟨b,off,none⟩) m c2),gEq (k:Int),gEq (.pointer (some ⟨b,off+k,none⟩)),gEq (y:Int),gEq (.slice (some ⟨b,off,none⟩) m c2),gEq (k:Int),gEq ((k:Int)-1:Int),gEq (.pointer (some ⟨b,off+(k-1),none⟩)),gEq (x:Int),gEq (.agg #[(y:Int),(x:Int)]),aKx (wr.heap.size) TSL #[(),()]]) 11 12 [(0,some 35),(1,some 36),(2,some 37),(3,some 38),(4,some 39),(5,some 40),(6,some 41),(7,some 42),(8,some 43),(9,some 44),(10,some 8)] ?steps ?fin
    case steps=>
     refine sS0 [] (sS0 [] (sS2 [(0,some 35),(1,some 36)] ?_))
     refine sC [(2,some 37)] rfl (fun wi hx=> ?_) ?_
     ·intro v2 h2 K hK
      obtain rfl:=h2
      have hX:Ext wr wi:=by exact .trans (.drew (.refl _)) hx
      have t:wi.cell? ⟨b,off+k,none⟩=some (.int .i64 (y:Int)):=(hX.cells.1 _ _ a2).trans cb
      go_simp
      exact hK _ _ ⟨.int .i64 (y:Int),rfl,rfl,Ext.refl _⟩
     refine sS0 [] (sS0 [] ?_)
     refine sC [(5,some 40)] rfl (fun wi hx=> ?_) ?_
     ·intro v5 h5 K hK
      obtain rfl:=h5
      have bv:IntKind.i64.wrap ((k:Int)-1)=(k:Int)-1:=IntWalk.i64_in _ (by omega)
      go_simp
      exact hK _ _ ⟨.int .i64 ((k:Int)-1),rfl,rfl,Ext.refl _⟩
     refine sS2 [(4,some 39),(6,some 41)] ?_
     refine sC [(7,some 42)] rfl (fun wi hx=> ?_) ?_
     ·intro v7 h7 K hK
      obtain rfl:=h7
      have hX:Ext wr wi:=by exact .trans (.drew (.refl _)) hx
      have t:wi.cell? ⟨b,off+(k-1),none⟩=some (.int .i64 (x:Int)):=(hX.cells.1 _ _ a2).trans ca
      go_simp
      exact hK _ _ ⟨.int .i64 (x:Int),rfl,rfl,Ext.refl _⟩
     refine sS2 [(3,some 38),(8,some 43)] ?_
     refine sC [] rfl (fun wi hx=> ?_) StepsL.nil
     ·intro K hK
      go_simp
      exact hK _ _ ⟨.pointer (some ⟨wi.heap.size,0,none⟩),rfl,⟨wi.heap.size,rfl,by have:=hx.sz;simp at this;omega,Blk.new _ _ _⟩,(Ext.refl _).alloc _⟩
    case fin=>
     intro wi hx v0 h0 v1 h1 v2 h2 v3 h3 v4 h4 v5 h5 v6 h6 v7 h7 v8 h8 v9 h9 be s
     obtain rfl:=h0
     obtain rfl:=h1
     obtain rfl:=h2
     obtain rfl:=h3
     obtain rfl:=h4
     obtain rfl:=h5
     obtain rfl:=h6
     obtain rfl:=h7
     obtain rfl:=h8
     obtain rfl:=h9
     obtain⟨af,rfl,ai,bd⟩:=s
     have hX:Ext wr wi:=hx.of_drew
     have M1:=(show Mem w wi [aI w.heap.size (af) TSL #[(),()],aI w.heap.size (w2.heap.size) TH3 #[aA,aB,.slice q n c],aJ w.heap.size TI 1 (q) (n) (c) (ivs ys),aJ w.heap.size TSL 2 (q5) (l) (lc) (sl.flatMap aK),aI w.heap.size (w.heap.size) TH3 #[aA,aB,.slice (some ⟨pb,po,none⟩) n cap]]from HM.blkOf hX bd ai)
     clear HM hx hX ca cb bd ai
     have am:=M1.hi 0
     have j:=M1.hi 1
     have ap:=M1.hi 4
     try simp only[Act.put,List.setIfInBounds_toArray,List.set_cons_zero,List.set_cons_succ]
     have z0:=(M1.bk 0).cl 0
     have bt:=(M1.bk 0).frozen 0
     have z1:=(M1.bk 0).cl 1
     have bj:=(M1.bk 0).frozen 1
     refine wpAny_ready (rs:= [11]) (by kernel_rfl) (by simp) ?_
     refine AllReady.cons rfl (fun K hK=> ?_) AllReady.nil
     go_simp
     refine hK _ _ ?_
     clear hK K z0 bt z1 bj
     have M2:=((M1.st 0 0 (.int .i64 (y:Int))).st 0 1 (.int .i64 (x:Int)))
     generalize ((wi.setCell ⟨af,0,none⟩ (.int .i64 (y:Int))).setCell ⟨af,1,none⟩ (.int .i64 (x:Int)))=w4 at M2⊢
     clear M1 am j ap
     have ar:=M2.hi 0
     have ay:=M2.hi 1
     have aw:=M2.hi 4
     refine wpAny_done (by kernel_rfl) ?_ _
     try simp only[Act.put,List.setIfInBounds_toArray,List.set_cons_zero,List.set_cons_succ]
     obtain⟨d,g⟩:=M2.nq 0 1
     obtain⟨n0,n1,n2⟩:=(M2.bk 1).tri
     have s0:=(M2.bk 0).cl 0
     have s1:=(M2.bk 0).cl 1
     have HD:=xQ (fun w' (hx:Ext w4 w')=>kY aA aB (y:Int) (x:Int) q n c ys w' ((M2.sq 2).ext hx) h.out)
     go_wp2_with fail
     refine(HD _ (by exact .refl _)).mono ?_
     rintro e w5 ⟨q6,c6,rfl,az,ad⟩
     have a5:(bG aA aB ys (y:Int) (x:Int)).length=n:=by rw[cW,f.out]
     rw[a5]at az⊢
     clear a5 HD d g n0 n1 n2 s0 s1
     have M3:=(M2.call ad az)
     clear M2 ar ay aw ad az
     have bo:=M3.hi 1
     have bm:=M3.hi 2
     have bf:=M3.hi 5
     by_cases hy0:ys.getD y 0=0
     ·have hm:bA aA aB ys (y:Int) (x:Int)=false:=by have:=aJ1 h (by rw[f.out];exact an) au (by rw[f.out];exact ax.out) hy0;exact this
      have hr:=xQ (pK (a:=x) (l:=rest') hy0)
      have bg:=xQ hy0
      clear hy0
      rw[hm]
      clear hm
      go_wp2
      go_roundw
      case rel=>exact⟨k+1,y,rest',ys,q,c,q5,l,lc,sl,by omega,by omega,by go_num,rfl,ao.out,by omega,by rw[Nat.add_sub_cancel];exact al.out,h.out,f.out,a9,bg.out,p.out.2,by rw[←ab.out,hr.out],((M3.bn TH3 #[aA,aB,.slice q6 n c6] (w5.heap.size)).pick [3,4,5,6] (by decide) rfl)⟩
      case measure=>simp[intOf];omega
     ·obtain⟨hm,hd⟩:=yU h (by rw[f.out];exact an) au (by rw[f.out];exact ax.out) hy0
      obtain⟨n1,n2,n3⟩:=rJ h (by rw[f.out];exact an) au (by rw[f.out];exact ax.out) hy0
      have hr:=xQ (nQ (a:=x) (l:=rest') hy0)
      rw[hd]at M3
      rw[hm]
      clear hm hd hy0
      generalize (ys.set x (ys.getD y 0)).set y 0=zs at*
      have N1:=xQ n1
      have N2:=xQ n2
      have N3:=xQ n3
      clear n1 n2 n3
      obtain⟨d,g⟩:=M3.nq 1 2
      obtain⟨n0,bi,n1,bp,n2,bq⟩:=(M3.bk 2).trif
      have s0:=(M3.bk 1).cl 0
      have s1:=(M3.bk 1).cl 1
      go_wp2_with (at_builtin;go_loud (refine cJ oO rfl _ _ rfl (((((M3.store (i:=2) rfl 0 (.int .i64 aA)).store (i:=2) rfl 1 (.int .i64 aB)).store (i:=2) rfl 2 (.slice q6 n c6)).bn TH3 #[aA,aB,.slice q6 n c6] (w5.heap.size)).adv ((Ext.refl _).alloc (.cells #[(y:Int),(x:Int)] TSL))) 5 rfl rfl (aK ((y:Int),(x:Int))) rfl (dY _ _ _ 1 2 _ (by simp) (by simp) (by simp[maxLen])) (mJ _ _) (by omega) ?_;intro q7 c7 w6 M6))
      clear d g n0 bi n1 bp n2 bq s0 s1
      have M7:=(show Mem w w6 [aI w.heap.size (w5.heap.size) TH3 #[aA,aB,.slice q6 n c6],aJ w.heap.size TI 1 (q6) (n) (c6) (ivs zs),aI w.heap.size (af) TSL #[(y:Int),(x:Int)],aI w.heap.size (w2.heap.size) TH3 #[aA,aB,.slice q6 n c6],aJ w.heap.size TI 1 (q) (n) (c) (ivs ys),aJ w.heap.size TSL 2 (q7) (l+1) (c7) (sl.flatMap aK++aK ((y:Int),(x:Int))),aI w.heap.size (w.heap.size) TH3 #[aA,aB,.slice (some ⟨pb,po,none⟩) n cap]]from M6)
      clear M6 M3
      have a7:Hid (sl.flatMap aK++aK ((y:Int),(x:Int))=(sl++ [((y:Int),(x:Int))]).flatMap aK):=by show _=_;rw[List.flatMap_append];simp
      rw[a7.out]at M7
      clear a7
      go_wp2
      go_roundw
      case rel=>exact⟨k+1,y,rest',zs,q6,c6,q7,l+1,c7,sl++ [((y:Int),(x:Int))],by omega,by omega,by go_num,rfl,by rw[List.length_append,←ao.out];rfl,by omega,by rw[Nat.add_sub_cancel];exact al.out,N1.out,by rw[N2.out,f.out],a9,N3.out,p.out.2,by rw[←ab.out,hr.out];simp,(M7.pick [3,1,5,6] (by decide) rfl)⟩
      case measure=>simp[intOf];omega
   ·obtain rfl:m=k:=by omega
    have o:rest= []:=by
     have h1:=congrArg List.length ae.out
     rw[List.length_drop,hwl.out]at h1
     cases rest with
     |nil=>rfl
     |cons y r=>simp at h1;omega
    subst o
    have ba:Hid (sl=(cF xs u ws0).2):=by show _=_;rw[←ab.out];simp[cF]
    go_wp2
    go_ret
    have bl:=ao.out
    subst bl
    rw[←ba.out]
    exact⟨q5,lc,rfl,HM.ow 2,HM.ext⟩
theorem iP {aA:Int}{n:Nat}(hg:(aA,n)∈gZ){u:Nat}(hu:u<n):0<(cY aA n 12 u).length∧(cY aA n 12 u).length≤6∧((cY aA n 12 u).length:Int)=aW aA u 0+1:=by
 have g:=bT hg hu
 have h:=lS hg 12 u hu (by have:=g.2.1;omega)
 have:=g.1;have:=g.2.1
 omega
theorem zG {aA aB:Int}{xs:List Int}(hok:aN aA aB xs=true){x y:Nat}(hx:x<xs.length)(hy:y∈aT aA xs.length x):dF aA aB xs (x:Int) (y:Int)=1:=by
 obtain⟨h1,h2⟩:=bR.1 hy
 unfold dF
 rw[if_pos ⟨hok,⟨by omega,by omega⟩,by omega,by omega⟩]
 exact h2
theorem uL (aA aB:Int)(p:OA)(n cap:Nat)(xs:List Int)(lq:OA)(m lc u:Nat)(w:World)(hS:Sl w p n cap 1 (ivs xs))(hok:aN aA aB xs=true)(hu:u<n)(hu0:xs.getD u 0=0)
  (hL:Sl w lq m lc 1 (ivs (bE (cY aA n 12 u)))):
  Calls Tryz.prog 155 #[aH aA aB p n cap,.slice lq m lc] w (eY (cF xs u (cY aA n 12 u).tail).2 w):=by
 have hl:=hS.ilen
 subst hl
 have hg:=jI hok
 obtain⟨g1,g2,g3,g4,g5,g6,g7⟩:=bX (cM hok)
 obtain⟨k1,k2,k3⟩:=iP hg hu
 have hm:=hL.ilen
 rw[List.length_map]at hm
 obtain⟨pb,po,rfl,i,j⟩:=hS.rd (by omega)
 obtain⟨b,c,rfl,hb,hc⟩:=hL.rd (by omega)
 have a: ∀(k x:Nat),(cY aA xs.length 12 u)[k]? =some x→w.cell? ⟨b,c+k,none⟩=some (.int .i64 (x:Int)):=by
  intro k x hx
  have hk:=(List.getElem?_eq_some_iff.1 hx).1
  rw[hc k (by omega)]
  simp[ivs,bE,hx]
 have d:=tK aA xs.length 12 u
 have f:w.cell? ⟨b,c,none⟩=some (.int .i64 (u:Int)):=a 0 u (by rw[d];rfl)
 have l:w.cell? ⟨pb,po+u,none⟩=some (.int .i64 0):=by
  rw[j u (by omega)]
  rw[List.getD_eq_getElem?_getD,List.getElem?_eq_getElem hu]at hu0
  simp only[Option.getD_some]at hu0
  simp[ivs,hu,hu0]
 have HV: ∀w',Ext w w'→Calls Tryz.prog 90 #[aH aA aB (some ⟨pb,po,none⟩) xs.length cap] w' fun e w''=>e= .returned (.bool true)∧Ext w' w'':=fun w' hy=>by
  have:=fX aA aB _ xs.length cap xs w' (hS.ext hy)
  rwa[hok]at this
 have HI: ∀w,Calls Tryz.prog 77 #[(u:Int),(),((xs.length:Int)-1:Int)] w fun e w'=>e= .returned (.bool true)∧w=w':=fun w=>by
  have:=qD (u:Int) 0 ((xs.length:Int)-1) w
  rwa[show decide ((0:Int)≤(u:Int)∧(u:Int)≤(xs.length:Int)-1)=true by simp;omega]at this
 have HW: ∀w',Ext w w'→Calls Tryz.prog 181 #[aH aA aB (some ⟨pb,po,none⟩) xs.length cap,.slice (some ⟨b,c,none⟩) m lc] w' fun e w''=>e= .returned (.bool true)∧Ext w' w'':=fun w' hy=>
  aFa aA aB _ xs.length cap b c m lc (cY aA xs.length 12 u) w' g5 g6 (by omega) (by omega) hm (Nat.lt_of_lt_of_le hb hy.sz) (fun k x hx=>(hy.cells.1 _ _ hb).trans (a k x hx)) u ((hy.cells.1 _ _ hb).trans f)
   (fun k x y hx hxy w2 hy2=>by
    have h2:=rZ hg 12 u k x y hu hx hxy
    have g:=aEc hg 12 u x hu (List.mem_of_getElem? hx)
    have:=xY aA aB (x:Int) (y:Int) _ xs.length cap xs w2 (hS.ext (hy.trans hy2))
    rw[zG hok g h2.2]at this
    exact this) (fun w2 hy2=>HV w2 (hy.trans hy2)) HI
 exact aHl aA aB pb po xs.length cap xs b c m lc u (cY aA xs.length 12 u).tail (cY aA xs.length 12 u) w g5 g6 (by omega) (by omega) d hm hb i hok rfl hu hu0 (qS hg 12 u hu) a f l HW
  (fun w' hy=>(fG aA aB _ xs.length cap xs w' (by omega) (hS.ext hy)).mono fun e w'' h=>h)
def jM (aA:Int)(n:Nat):Option Nat→List Nat
 |none=> []
 |some u=>cY aA n 12 u
theorem vY {aA:Int}{n:Nat}(hg:(aA,n)∈gZ){l:List Nat}(hl: ∀x∈l,x<n):(jM aA n (cT aA l)).length≤6:=by
 cases h:cT aA l with
 |none=>simp[jM]
 |some u=>exact(iP hg (hl u ((iH aA l).2 u h))).2.1
theorem wP {aA:Int}{n:Nat}(hg:(aA,n)∈gZ){l:List Nat}(hl: ∀x∈l,x<n){u:Nat}(hu:u<n):
  ((jM aA n (cT aA l)).length=0∨(cY aA n 12 u).length<(jM aA n (cT aA l)).length→cT aA (l++ [u])=some u)∧
  (¬((jM aA n (cT aA l)).length=0∨(cY aA n 12 u).length<(jM aA n (cT aA l)).length)→cT aA (l++ [u])=cT aA l):=by
 obtain⟨k1,k2,k3⟩:=iP hg hu
 rw[yH]
 cases h:cT aA l with
 |none=>simp[jM,mN]
 |some v=>
  obtain⟨m1,m2,m3⟩:=iP hg (hl v ((iH aA l).2 v h))
  simp only[jM,mN]
  constructor
  ·intro hc;rw[if_pos (by omega)]
  ·intro hc;rw[if_neg (by omega)]
theorem aC6 (aA aB:Int)(p:OA)(n cap:Nat)(fr:List Nat)(F:Nat)(w:World)(hg:Hid ((aA,n)∈gZ))(hn:n≤12)(hF:Hid (fr.length=F))(hF12:F≤12)(hfr:Hid (∀x∈fr,x<n))
  (HF:xC 134 #[aH aA aB p n cap] w fun w' e w''=> ∃q c,e= .returned (.slice q F c)∧w''.ownsRow w'.heap.size TI 1 (.slice q F c) F (ivs (bE fr))∧Ext w' w'')
  (HWAY:Hid (∀(u:Nat),u<n→ ∀w',Ext w w'→Calls Tryz.prog 180 #[aH aA aB p n cap,(u:Int),(),(-1:Int)] w' (aX (bE (cY aA n 12 u)) w'))):
  Calls Tryz.prog 154 #[aH aA aB p n cap,(),(-1:Int)] w (aX (bE (jM aA n (cT aA fr))) w):=by
 go_enter Tryz.func154,Tryz.ntmps154
 have ME:=(((Mem.start w).bn TH3 #[aA,aB,.slice p n cap] (w.heap.size)).made0 TI 1 (w.heap.size+1) (by simp))
 go_wp2_with fail
 refine(HF _ ME.ext).mono ?_
 rintro e w1 ⟨q1,c1,rfl,j,o⟩
 have M1:=(ME.call o j)
 clear ME o j
 have af:=M1.hi 2
 go_wp2
 go_loopw [7,9] (fun v i wr=> ∃(k:Nat) (qb:OA) (l lb:Nat),k≤F∧i= .int .i64 k∧v= .slice qb l lb∧l=(jM aA n (cT aA (fr.take k))).length∧Mem w wr [aJ w.heap.size TI 1 (qb) (l) (lb) (ivs (bE (jM aA n (cT aA (fr.take k))))),aJ w.heap.size TI 1 (q1) (F) (c1) (ivs (bE fr)),aI w.heap.size (w.heap.size) TH3 #[aA,aB,.slice p n cap]]) (fun _ i _=>F-(intOf i).toNat)
 case atStart=>exact⟨0,some ⟨w.heap.size+1,0,none⟩,0,0,Nat.zero_le _,rfl,rfl,rfl,(M1.pick [1,0,2] (by decide) rfl)⟩
 case round=>
  clear M1
  obtain⟨k,qb,l,lb,hk,rfl,rfl,hl,hM⟩:=hrel
  have HM:=hM
  have a:=xQ hl
  have ah:l≤6:=by rw[hl];exact vY hg.out (fun x hx=>hfr.out x (List.mem_of_mem_take hx))
  have t:w.heap.size<wr.heap.size:=(HM.hi 2)
  clear hM hl
  by_cases hlt:k<F
  ·obtain⟨u,hu⟩: ∃u,fr[k]? =some u:=⟨_,List.getElem?_eq_getElem (by rw[hF.out];exact hlt)⟩
   have g:u<n:=hfr.out u (List.mem_of_getElem? hu)
   obtain⟨gf,rfl,ag,y⟩:=HM.so 1
   have cu:wr.cell? ⟨gf,k,none⟩=some (.int .i64 (u:Int)):=by have:=(HM.ow 1).cellAt k (by omega);rw[this];simp[ivs,bE,hu]
   obtain⟨b,d⟩:=wP hg.out (l:=fr.take k) (fun x hx=>hfr.out x (List.mem_of_mem_take hx)) g
   rw[←bD hu,←a.out]at b d
   obtain⟨k1,k2,k3⟩:=iP hg.out g
   have K3:=xQ k3
   obtain⟨W,hW⟩: ∃W,W=(cY aA n 12 u).length:=⟨_,rfl⟩
   rw[←hW]at k1 k2 b d
   have m:=xQ b
   have ab:=xQ d
   have f:=xQ hW
   have HC:=xQ (fun w' (hx:Ext w w')=>HWAY u g w' hx)
   clear hu b d hW k3
   have i1:(0:Int)≤(k:Int):=by omega
   have i2:(k:Int)<(F:Int):=by omega
   go_wp2
   refine rL (gl [gEq (.agg #[aA,aB,.slice p n cap]),gEq (.slice (some ⟨gf,0,none⟩) F c1),gEq (k:Int),gEq (.pointer (some ⟨gf,k,none⟩)),gEq (u:Int),gEq (.int .i64 0),gEq (-1:Int),(fun v w'=> ∃q c,v= .slice q (W) c∧w'.ownsRow wr.heap.size TI 1 (.slice q (W) c) (W) (ivs (bE (cY aA n 12 u))))]) 8 9 [(0,some 20),(1,some 21),(2,some 22),(3,some 23),(4,some 24),(5,some 25),(6,some 26),(7,some 27)] ?steps ?fin (hG:=(oM (bV (bZ _) (bV (bZ _) (bV (bZ _) (bV (bZ _) (bV (bZ _) (bV (bZ _) (bV (bZ _) (bV (fun v w w' ⟨q,c,he,ho⟩ hx=>⟨q,c,he,bC ho hx⟩) (rM)))))))))))
   case steps=>
    refine sC [] rfl (fun wi hx=> ?_) ?_
    ·intro K hK
     have hX:Ext wr wi:=by exact .trans (.drew (.refl _)) hx
     obtain⟨ae,aj,ai⟩:=((HM.bk 2).ext hX).tri
     go_simp
     exact hK _ _ ⟨.agg #[aA,aB,.slice p n cap],rfl,rfl,Ext.refl _⟩
    refine sS0 [] (sS0 [] (sS2 [(1,some 21),(2,some 22)] ?_))
    refine sC [(3,some 23)] rfl (fun wi hx=> ?_) ?_
    ·intro v3 h3 K hK
     obtain rfl:=h3
     have hX:Ext wr wi:=by exact .trans (.drew (.refl _)) hx
     have ae:wi.cell? ⟨gf,k,none⟩=some (.int .i64 (u:Int)):=(hX.cells.1 _ _ y).trans cu
     go_simp
     exact hK _ _ ⟨.int .i64 (u:Int),rfl,rfl,Ext.refl _⟩
    refine sS0 [] (sS0 [] ?_)
    refine sC [(0,some 20),(4,some 24),(5,some 25),(6,some 26)] rfl (fun wi hx=> ?_) StepsL.nil
    ·intro v0 h0 v4 h4 v5 h5 v6 h6 K hK
     obtain rfl:=h0
     obtain rfl:=h4
     obtain rfl:=h5
     obtain rfl:=h6
     have hX:Ext wr wi:=by exact .trans (.drew (.refl _)) hx
     go_wp2_with fail
     refine(HC _ (HM.ext.trans hX)).mono ?_
     rintro e w5 ⟨q5,c5,rfl,o5,aa⟩
     have ad:(bE (cY aA n 12 u)).length=W:=by rw[f.out];simp[bE]
     rw[ad]at o5⊢
     go_simp
     exact hK _ _ ⟨.slice q5 (W) c5,rfl,⟨q5,c5,rfl,bH o5 (by have:=hX.sz;simpa using this)⟩,aa⟩
   case fin=>
    intro wi hx v0 h0 v1 h1 v2 h2 v3 h3 v4 h4 v5 h5 v6 h6 v7 h7
    obtain rfl:=h0
    obtain rfl:=h1
    obtain rfl:=h2
    obtain rfl:=h3
    obtain rfl:=h4
    obtain rfl:=h5
    obtain rfl:=h6
    obtain⟨q7,c7,rfl,r⟩:=h7
    have hX:Ext wr wi:=hx.of_drew
    have M1:=(show Mem w wi [aJ w.heap.size TI 1 (q7) (W) (c7) (ivs (bE (cY aA n 12 u))),aJ w.heap.size TI 1 (qb) (l) (lb) (ivs (bE (jM aA n (cT aA (fr.take k))))),aJ w.heap.size TI 1 (some ⟨gf,0,none⟩) (F) (c1) (ivs (bE fr)),aI w.heap.size (w.heap.size) TH3 #[aA,aB,.slice p n cap]]from HM.ownNew hX r (Nat.le_refl _))
    clear HM
    have z:=M1.hi 3
    try simp only[Act.put,List.setIfInBounds_toArray,List.set_cons_zero,List.set_cons_succ]
    refine wpAny_ready (rs:= [8]) (by kernel_rfl) (by simp) ?_
    refine AllReady.cons rfl (fun K hK=> ?_) AllReady.nil
    go_simp
    refine hK _ _ ?_
    clear hK K
    refine wpAny_done (by kernel_rfl) ?_ _
    try simp only[Act.put,List.setIfInBounds_toArray,List.set_cons_zero,List.set_cons_succ]
    clear hx hX cu r HC t
    have p1:decide ((0:Int)<(W:Int))=true:=by simp;omega
    by_cases h0:l=0
    ·have hn:=xQ (m (.inl h0))
     have t1:((l:Int)==0)=true:=by simp[h0]
     clear h0
     go_wp2
     go_roundw
     case rel=>exact⟨k+1,q7,W,c7,by omega,by go_num,rfl,by rw[hn.out];exact f.out,by rw[hn.out];exact(M1.pick [0,2,3] (by decide) rfl)⟩
     case measure=>simp[intOf];omega
    ·have t1:((l:Int)==0)=false:=by simp[h0]
     by_cases h1:W<l
     ·have hn:=xQ (m (.inr h1))
      have t2:decide ((W:Int)<(l:Int))=true:=by simp[h1]
      have t3:decide (W<l)=true:=by simp[h1]
      go_wp2
      go_roundw
      case rel=>exact⟨k+1,q7,W,c7,by omega,by go_num,rfl,by rw[hn.out];exact f.out,by rw[hn.out];exact(M1.pick [0,2,3] (by decide) rfl)⟩
      case measure=>simp[intOf];omega
     ·have hn:=xQ (ab (fun h=>h.elim h0 h1))
      have t2:decide ((W:Int)<(l:Int))=false:=by simp;omega
      have t3:decide (W<l)=false:=by simp;omega
      go_wp2
      go_roundw
      case rel=>exact⟨k+1,qb,l,lb,by omega,by go_num,rfl,by rw[hn.out];exact a.out,by rw[hn.out];exact(M1.pick [1,2,3] (by decide) rfl)⟩
      case measure=>simp[intOf];omega
  ·obtain rfl:F=k:=by omega
   have s:Hid (fr.take F=fr):=by show _=_;rw[List.take_of_length_le (by rw[hF.out];omega)]
   go_wp2
   go_ret
   rw[s.out]at a HM
   exact dA (by rw[List.length_map];exact a.out.symm) (HM.ow 0) HM.ext
theorem oZ (aA aB:Int)(p:OA)(n cap:Nat)(xs:List Int)(w:World)(hS:Sl w p n cap 1 (ivs xs))(hok:aN aA aB xs=true):
  Calls Tryz.prog 154 #[aH aA aB p n cap,(),(-1:Int)] w (aX (bE (jM aA n (cT aA (bI xs)))) w):=by
 have hl:=hS.ilen
 subst hl
 obtain⟨g1,g2,g3,g4,g5,g6,g7⟩:=bX (cM hok)
 have a:(bI xs).length≤12:=by unfold bI;exact Nat.le_trans (List.length_filter_le _ _) (by simp;omega)
 refine aC6 aA aB p xs.length cap (bI xs) _ w (jI hok) g6 rfl a (fun x hx=>(jJ hx).1) (fun w' hy=> ?_) (fun u hu w' hy=>xK aA aB p xs.length cap u xs w' (hS.ext hy) hok hu)
 have:=aCi aA aB p xs.length cap xs w' (hS.ext hy)
 rw[hok,if_pos rfl,qK]at this
 refine this.mono fun e w'' h=> ?_
 obtain⟨q,c,h1,h2,h3⟩:=h
 rw[List.length_map]at h1 h2
 exact⟨q,c,h1,h2,h3⟩
def nZ (r:Option (List Int×List Sl2))(w:World)(e:Ending)(w':World):Prop:=
 match r with
 |none=> ∃v,e= .returned (.tuple #[v,.bool false])∧Ext w w'
 |some r=> ∃q c,e= .returned (.tuple #[.slice q r.2.length c,.bool true])∧w'.ownsRow w.heap.size TSL 2 (.slice q r.2.length c) r.2.length (r.2.flatMap aK)∧Ext w w'
theorem aFm (aA aB:Int)(p:OA)(n cap:Nat)(w:World)
  (HV:xB 90 #[aH aA aB p n cap] w true)
  (HN:xC 154 #[aH aA aB p n cap,(),(-1:Int)] w fun w' e w''=> ∃q c,e= .returned (.slice q 0 c)∧w''.ownsRow w'.heap.size TI 1 (.slice q 0 c) 0 []∧Ext w' w''):
  Calls Tryz.prog 119 #[aH aA aB p n cap] w (nZ none w):=by
 go_enter Tryz.func119,Tryz.ntmps119
 have ME:=(((Mem.start w).bn TH3 #[aA,aB,.slice p n cap] (w.heap.size)).made0 TI 1 (w.heap.size+1) (by simp))
 go_wp2_with fail
 refine(HV _ ME.ext).mono ?_
 rintro e w1 ⟨rfl,b⟩
 have M1:=(ME.adv b)
 clear ME b
 have a:=M1.hi 1
 obtain⟨h,i,g⟩:=(M1.bk 1).tri
 go_wp2_with fail
 clear h i g
 refine(HN _ M1.ext).mono ?_
 rintro e w2 ⟨qw,cw,rfl,d,f⟩
 have M2:=(M1.call f d)
 clear M1 a f d
 have j:=M2.hi 2
 have HX:=xQ (M2.ext)
 go_wp2
 exact bodyPost_ret (v:= .tuple #[.slice (some ⟨w2.heap.size,0,none⟩) 0 0,.bool false]) (by simp[results,Tryz.results119,go_sem, *]) rfl ⟨_,rfl,by have:=HX.out;exact .alloc this _⟩
theorem aCp (aA aB:Int)(p:OA)(n cap:Nat)(way:List Nat)(W:Nat)(r:List Int×List Sl2)(w:World)(h0:0<W)
  (HV:xB 90 #[aH aA aB p n cap] w true)
  (HN:xC 154 #[aH aA aB p n cap,(),(-1:Int)] w fun w' e w''=> ∃q c,e= .returned (.slice q W c)∧w''.ownsRow w'.heap.size TI 1 (.slice q W c) W (ivs (bE way))∧Ext w' w'')
  (HS:Hid (∀w' q c,Ext w w'→Sl w' q W c 1 (ivs (bE way))→Calls Tryz.prog 155 #[aH aA aB p n cap,.slice q W c] w' (eY r.2 w'))):
  Calls Tryz.prog 119 #[aH aA aB p n cap] w (nZ (some r) w):=by
 have t0:((W:Int)==0)=false:=by simp;omega
 go_enter Tryz.func119,Tryz.ntmps119
 have ME:=(((Mem.start w).bn TH3 #[aA,aB,.slice p n cap] (w.heap.size)).made0 TI 1 (w.heap.size+1) (by simp))
 go_wp2_with fail
 refine(HV _ ME.ext).mono ?_
 rintro e w1 ⟨rfl,i⟩
 have M1:=(ME.adv i)
 clear ME i
 have b:=M1.hi 1
 obtain⟨d,f,a⟩:=(M1.bk 1).tri
 go_wp2_with fail
 clear d f a
 refine(HN _ M1.ext).mono ?_
 rintro e w2 ⟨qw,cw,rfl,h,g⟩
 have M2:=(M1.call g h)
 clear M1 b g h
 have k:=M2.hi 2
 obtain⟨d,f,a⟩:=(M2.bk 2).tri
 go_wp2_with fail
 clear d f a
 have HH:=xQ (HS _ qw cw M2.ext (M2.sq 0))
 refine HH.out.mono ?_
 rintro e w9 ⟨q9,c9,rfl,o9,j⟩
 have HX:=xQ (M2.ext)
 go_wp2
 exact bodyPost_ret (v:= .tuple #[.slice q9 r.2.length c9,.bool true]) (by simp[results,Tryz.results119,go_sem, *]) rfl ⟨q9,c9,rfl,bH o9 HX.out.sz,HX.out.trans j⟩
theorem vV (aA aB:Int)(p:OA)(n cap:Nat)(xs:List Int)(w:World)(hS:Sl w p n cap 1 (ivs xs))(hok:aN aA aB xs=true):
  Calls Tryz.prog 119 #[aH aA aB p n cap] w (nZ (gO aA xs) w):=by
 have hl:=hS.ilen
 subst hl
 have hg:=jI hok
 have HV: ∀w',Ext w w'→Calls Tryz.prog 90 #[aH aA aB p xs.length cap] w' fun e w''=>e= .returned (.bool true)∧Ext w' w'':=fun w' hy=>by
  have:=fX aA aB p xs.length cap xs w' (hS.ext hy)
  rwa[hok]at this
 unfold gO
 cases hn:cT aA (bI xs)with
 |none=>
  refine aFm aA aB p xs.length cap w HV (fun w' hy=> ?_)
  have:=oZ aA aB p xs.length cap xs w' (hS.ext hy) hok
  rw[hn]at this
  exact this
 |some u=>
  obtain⟨hu,a⟩:=jJ ((iH aA _).2 u hn)
  obtain⟨k1,k2,k3⟩:=iP hg hu
  refine aCp aA aB p xs.length cap (cY aA xs.length 12 u) _ (cF xs u (cY aA xs.length 12 u).tail) w k1 HV (fun w' hy=> ?_) (fun w' q c hy hL=>uL aA aB p xs.length cap xs q _ c u w' (hS.ext hy) hok hu a hL)
  have:=oZ aA aB p xs.length cap xs w' (hS.ext hy) hok
  rw[hn]at this
  refine this.mono fun e w'' h=> ?_
  obtain⟨q,c,h1,h2,h3⟩:=h
  simp only[jM,List.length_map]at h1 h2
  exact⟨q,c,h1,h2,h3⟩
def cC (aA aB:Int)(xs:List Int)(id:Int):List Int×Int:=
 match kX aA aB xs id with
 |none=>(xs,-1)
 |some r=>(r.1,(r.2:Int))
theorem xO (aA aB id:Int)(p:OA)(n cap:Nat)(xs:List Int)(w:World)(hlen:Hid (xs.length=n))
  (HV:xB 90 #[aH aA aB p n cap] w true)
  (HC:xC 119 #[aH aA aB p n cap] w fun w' e w''=> ∃v,e= .returned (.tuple #[v,.bool false])∧Ext w' w'')
  (HL:xC 104 #[aH aA aB p n cap] w fun w' e w''=> ∃q c,e= .returned (aH aA aB q n c)∧w''.ownsRow w'.heap.size TI 1 (.slice q n c) n (ivs xs)∧Ext w' w''):
  Calls Tryz.prog 71 #[aH aA aB p n cap,id] w (cO aA aB xs (-1) w):=by
 go_enter Tryz.func71,Tryz.ntmps71
 go_wp2_with fail
 refine(HV _ (((Mem.start w).bn TH3 #[aA,aB,.slice p n cap] (w.heap.size)).bn TH3 #[(),(),((),())] (w.heap.size+1)).ext).mono ?_
 rintro e w1 ⟨rfl,m⟩
 have M1:=((((Mem.start w).bn TH3 #[aA,aB,.slice p n cap] (w.heap.size)).bn TH3 #[(),(),((),())] (w.heap.size+1)).adv m)
 have a:=M1.hi 0
 have g:=M1.hi 1
 clear m
 obtain⟨h,i,f⟩:=(M1.bk 1).tri
 go_wp2_with fail
 clear h i f
 refine(HC _ M1.ext).mono ?_
 rintro e w2 ⟨v,rfl,j⟩
 have M2:=(M1.adv j)
 clear M1 a g j
 have b:=M2.hi 0
 have d:=M2.hi 1
 obtain⟨h,i,f⟩:=(M2.bk 1).tri
 go_wp2_with fail
 clear h i f
 refine(HL _ M2.ext).mono ?_
 rintro e w3 ⟨q0,c0,rfl,o,k⟩
 have M3:=(M2.call k o)
 clear M2 b d k o
 have t:=M3.hi 1
 have s:=M3.hi 2
 obtain⟨z0,u,z1,r,z2,x⟩:=(M3.bk 1).trif
 go_wp2
 clear z0 u z1 r z2 x
 have M4:=(((M3.st 1 0 (.int .i64 aA)).st 1 1 (.int .i64 aB)).st 1 2 (.slice q0 n c0))
 generalize l:World.setCell _ _ _=wz
 rw[l]at M4
 clear l M3
 obtain⟨aa,z,y⟩:=(M4.bk 1).tri
 exact bodyPost_ret (v:= .tuple #[.agg #[aA,aB,.slice q0 n c0],(-1:Int)]) (by simp[results,Tryz.results71,go_sem, *]) rfl (eH hlen.out (M4.ow 0) M4.ext)
theorem aC1 (aA aB id:Int)(p:OA)(n cap K:Nat)(xs ys zs:List Int)(sl:List Sl2)(w:World)(hlen:Hid (xs.length=n))
  (HV:xB 90 #[aH aA aB p n cap] w true)
  (HC:xC 119 #[aH aA aB p n cap] w fun w' e w''=> ∃q c,e= .returned (.tuple #[.slice q K c,.bool true])∧w''.ownsRow w'.heap.size TSL 2 (.slice q K c) K (sl.flatMap aK)∧Ext w' w'')
  (HR:Hid (∀w' q c,Ext w w'→Sl w' q K c 2 (sl.flatMap aK)→Calls Tryz.prog 120 #[aH aA aB p n cap,.slice q K c] w' fun e w''=> ∃q c,e= .returned (.tuple #[aH aA aB q n c,(K:Int)])∧w''.ownsRow w'.heap.size TI 1 (.slice q n c) n (ivs ys)∧Ext w' w''))
  (HP:Hid (∀w' q c,Ext w w'→Sl w' q n c 1 (ivs ys)→Calls Tryz.prog 121 #[aH aA aB q n c,(),id] w' fun e w''=> ∃q c,e= .returned (.tuple #[aH aA aB q n c,.bool false])∧w''.ownsRow w'.heap.size TI 1 (.slice q n c) n (ivs zs)∧Ext w' w''))
  (HL:xC 104 #[aH aA aB p n cap] w fun w' e w''=> ∃q c,e= .returned (aH aA aB q n c)∧w''.ownsRow w'.heap.size TI 1 (.slice q n c) n (ivs xs)∧Ext w' w''):
  Calls Tryz.prog 71 #[aH aA aB p n cap,id] w (cO aA aB xs (-1) w):=by
 go_enter Tryz.func71,Tryz.ntmps71
 go_wp2_with fail
 refine(HV _ (((Mem.start w).bn TH3 #[aA,aB,.slice p n cap] (w.heap.size)).bn TH3 #[(),(),((),())] (w.heap.size+1)).ext).mono ?_
 rintro e w1 ⟨rfl,ab⟩
 have M1:=((((Mem.start w).bn TH3 #[aA,aB,.slice p n cap] (w.heap.size)).bn TH3 #[(),(),((),())] (w.heap.size+1)).adv ab)
 have g:=M1.hi 0
 have m:=M1.hi 1
 clear ab
 obtain⟨b,d,a⟩:=(M1.bk 1).tri
 go_wp2_with fail
 clear b d a
 refine(HC _ M1.ext).mono ?_
 rintro e w2 ⟨qs,cs,rfl,u,r⟩
 have M2:=(M1.call r u)
 clear M1 g m r u
 have i:=M2.hi 1
 have o:=M2.hi 2
 obtain⟨b,d,a⟩:=(M2.bk 2).tri
 go_wp2_with fail
 clear b d a
 refine(HR _ qs cs M2.ext (M2.sq 0)).mono ?_
 rintro e w3 ⟨q1,c1,rfl,ad,x⟩
 have M3:=(M2.call x ad)
 clear M2 i o x ad
 have k:=M3.hi 2
 have j:=M3.hi 3
 go_wp2_with fail
 refine(HP _ q1 c1 (M3.bn TH3 #[aA,aB,.slice q1 n c1] (w3.heap.size)).ext ((M3.bn TH3 #[aA,aB,.slice q1 n c1] (w3.heap.size)).sq 1)).mono ?_
 rintro e w4 ⟨q2,c2,rfl,s,z⟩
 have M4:=((M3.bn TH3 #[aA,aB,.slice q1 n c1] (w3.heap.size)).call z s)
 clear M3 k j z s
 have f:=M4.hi 1
 have h:=M4.hi 4
 have l:=M4.hi 5
 obtain⟨b,d,a⟩:=(M4.bk 5).tri
 go_wp2_with fail
 clear b d a
 refine(HL _ (M4.bn TH3 #[aA,aB,.slice q2 n c2] (w4.heap.size)).ext).mono ?_
 rintro e w5 ⟨q0,c0,rfl,t,aa⟩
 have M5:=((M4.bn TH3 #[aA,aB,.slice q2 n c2] (w4.heap.size)).call aa t)
 clear M4 f h l aa t
 have ag:=M5.hi 1
 have ae:=M5.hi 3
 have ai:=M5.hi 6
 have aj:=M5.hi 7
 obtain⟨z0,ak,z1,af,z2,ah⟩:=(M5.bk 6).trif
 go_wp2
 clear z0 ak z1 af z2 ah
 have M6:=(((M5.st 6 0 (.int .i64 aA)).st 6 1 (.int .i64 aB)).st 6 2 (.slice q0 n c0))
 generalize y:World.setCell _ _ _=wz
 rw[y]at M6
 clear y M5
 obtain⟨an,am,al⟩:=(M6.bk 6).tri
 exact bodyPost_ret (v:= .tuple #[.agg #[aA,aB,.slice q0 n c0],(-1:Int)]) (by simp[results,Tryz.results71,go_sem, *]) rfl (eH hlen.out (M6.ow 0) M6.ext)
theorem zT (aA aB id:Int)(p:OA)(n cap K:Nat)(ys zs:List Int)(sl:List Sl2)(w:World)(hlen:Hid (zs.length=n))
  (HV:xB 90 #[aH aA aB p n cap] w true)
  (HC:xC 119 #[aH aA aB p n cap] w fun w' e w''=> ∃q c,e= .returned (.tuple #[.slice q K c,.bool true])∧w''.ownsRow w'.heap.size TSL 2 (.slice q K c) K (sl.flatMap aK)∧Ext w' w'')
  (HR:Hid (∀w' q c,Ext w w'→Sl w' q K c 2 (sl.flatMap aK)→Calls Tryz.prog 120 #[aH aA aB p n cap,.slice q K c] w' fun e w''=> ∃q c,e= .returned (.tuple #[aH aA aB q n c,(K:Int)])∧w''.ownsRow w'.heap.size TI 1 (.slice q n c) n (ivs ys)∧Ext w' w''))
  (HP:Hid (∀w' q c,Ext w w'→Sl w' q n c 1 (ivs ys)→Calls Tryz.prog 121 #[aH aA aB q n c,(),id] w' fun e w''=> ∃q c,e= .returned (.tuple #[aH aA aB q n c,.bool true])∧w''.ownsRow w'.heap.size TI 1 (.slice q n c) n (ivs zs)∧Ext w' w'')):
  Calls Tryz.prog 71 #[aH aA aB p n cap,id] w (cO aA aB zs (K:Int) w):=by
 go_enter Tryz.func71,Tryz.ntmps71
 go_wp2_with fail
 refine(HV _ (((Mem.start w).bn TH3 #[aA,aB,.slice p n cap] (w.heap.size)).bn TH3 #[(),(),((),())] (w.heap.size+1)).ext).mono ?_
 rintro e w1 ⟨rfl,u⟩
 have M1:=((((Mem.start w).bn TH3 #[aA,aB,.slice p n cap] (w.heap.size)).bn TH3 #[(),(),((),())] (w.heap.size+1)).adv u)
 have a:=M1.hi 0
 have h:=M1.hi 1
 clear u
 obtain⟨i,j,f⟩:=(M1.bk 1).tri
 go_wp2_with fail
 clear i j f
 refine(HC _ M1.ext).mono ?_
 rintro e w2 ⟨qs,cs,rfl,o,l⟩
 have M2:=(M1.call l o)
 clear M1 a h l o
 have b:=M2.hi 1
 have k:=M2.hi 2
 obtain⟨i,j,f⟩:=(M2.bk 2).tri
 go_wp2_with fail
 clear i j f
 refine(HR _ qs cs M2.ext (M2.sq 0)).mono ?_
 rintro e w3 ⟨q1,c1,rfl,x,r⟩
 have M3:=(M2.call r x)
 clear M2 b k r x
 have g:=M3.hi 2
 have d:=M3.hi 3
 go_wp2_with fail
 refine(HP _ q1 c1 (M3.bn TH3 #[aA,aB,.slice q1 n c1] (w3.heap.size)).ext ((M3.bn TH3 #[aA,aB,.slice q1 n c1] (w3.heap.size)).sq 1)).mono ?_
 rintro e w4 ⟨q2,c2,rfl,m,t⟩
 have M4:=((M3.bn TH3 #[aA,aB,.slice q1 n c1] (w3.heap.size)).call t m)
 clear M3 g d t m
 have y:=M4.hi 1
 have z:=M4.hi 4
 have ad:=M4.hi 5
 obtain⟨z0,ae,z1,aa,z2,ab⟩:=(M4.bk 4).trif
 go_wp2
 clear z0 ae z1 aa z2 ab
 have M5:=((((M4.st 4 0 (.int .i64 aA)).st 4 1 (.int .i64 aB)).st 4 2 (.slice q2 n c2)).bn TH3 #[aA,aB,.slice q2 n c2] (w4.heap.size))
 generalize s:World.alloc _ _=wz
 rw[s]at M5
 clear s M4
 obtain⟨ah,ag,af⟩:=(M5.bk 5).tri
 exact bodyPost_ret (v:= .tuple #[.agg #[aA,aB,.slice q2 n c2],(K:Int)]) (by simp[results,Tryz.results71,go_sem, *]) rfl (eH hlen.out (M5.ow 1) M5.ext)
theorem lC (aA aB:Int)(xs:List Int)(id:Int):(cV aA aB xs id).1.length=xs.length:=by
 unfold cV;split<;>simp
theorem zQ (aA aB id:Int)(p:OA)(n cap:Nat)(xs:List Int)(w:World)(hS:Sl w p n cap 1 (ivs xs))(hok:aN aA aB xs=true):
  Calls Tryz.prog 71 #[aH aA aB p n cap,id] w (cO aA aB (cC aA aB xs id).1 (cC aA aB xs id).2 w):=by
 have hl:=hS.ilen
 subst hl
 obtain⟨g1,g2,g3,g4,g5,g6,g7⟩:=bX (cM hok)
 have HV: ∀w',Ext w w'→Calls Tryz.prog 90 #[aH aA aB p xs.length cap] w' fun e w''=>e= .returned (.bool true)∧Ext w' w'':=fun w' hy=>by
  have:=fX aA aB p xs.length cap xs w' (hS.ext hy)
  rwa[hok]at this
 have HL:=fun(w':World) (hy:Ext w w')=>fG aA aB p xs.length cap xs w' (by omega) (hS.ext hy)
 have HC:=fun(w':World) (hy:Ext w w')=>vV aA aB p xs.length cap xs w' (hS.ext hy) hok
 cases hr:gO aA xs with
 |none=>
  have e:cC aA aB xs id=(xs,-1):=by unfold cC kX;rw[hr]
  rw[e]
  rw[hr]at HC
  exact xO aA aB id p xs.length cap xs w rfl HV HC HL
 |some r=>
  rw[hr]at HC
  obtain⟨f1,f2,f3,f4,f5⟩:=nW hok hr
  have HR: ∀w' q c,Ext w w'→Sl w' q r.2.length c 2 (r.2.flatMap aK)→Calls Tryz.prog 120 #[aH aA aB p xs.length cap,.slice q r.2.length c] w' fun e w''=> ∃q c,e= .returned (.tuple #[aH aA aB q xs.length c,(r.2.length:Int)])∧w''.ownsRow w'.heap.size TI 1 (.slice q xs.length c) xs.length (ivs r.1)∧Ext w' w'':=fun w' q c hy hL=>by
   have:=pU aA aB p xs.length cap xs q r.2.length c r.2 w' (by omega) (hS.ext hy) hL hok
   rw[f1]at this
   unfold cO at this
   dsimp only at this
   rw[f3]at this
   exact this
  have HP: ∀w' q c,Ext w w'→Sl w' q xs.length c 1 (ivs r.1)→Calls Tryz.prog 121 #[aH aA aB q xs.length c,(),id] w' fun e w''=> ∃q c,e= .returned (.tuple #[aH aA aB q xs.length c,.bool (cV aA aB r.1 id).2])∧w''.ownsRow w'.heap.size TI 1 (.slice q xs.length c) xs.length (ivs (cV aA aB r.1 id).1)∧Ext w' w'':=fun w' q c hy hL=>by
   have:=aBf aA aB id q xs.length c r.1 w' hL f2
   unfold cQ at this
   rw[lC,f3]at this
   exact this
  cases hb:(cV aA aB r.1 id).2 with
  |false=>
   have e:cC aA aB xs id=(xs,-1):=by simp[cC,kX,hr,hb]
   rw[e]
   rw[hb]at HP
   exact aC1 aA aB id p xs.length cap r.2.length xs r.1 (cV aA aB r.1 id).1 r.2 w rfl HV HC HR HP HL
  |true=>
   have e:cC aA aB xs id=((cV aA aB r.1 id).1,(r.2.length:Int)):=by simp[cC,kX,hr,hb]
   rw[e]
   rw[hb]at HP
   exact zT aA aB id p xs.length cap r.2.length r.1 (cV aA aB r.1 id).1 r.2 w (show _=_ by rw[lC,f3]) HV HC HR HP
end Go.Proofs.YtgnkoffndhmhpaaGreatDoor
