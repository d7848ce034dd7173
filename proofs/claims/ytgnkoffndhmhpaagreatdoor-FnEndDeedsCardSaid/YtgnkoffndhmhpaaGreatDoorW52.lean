/-
  A law's walk or frame (@packed).
-/
import Derived.Test.YtgnkoffndhmhpaaGreatDoorP2
import Derived.Test.YtgnkoffndhmhpaaGreatDoorP5
import Derived.Test.YtgnkoffndhmhpaaGreatDoorP8
import Derived.Test.YtgnkoffndhmhpaaGreatDoorP27
import Derived.Test.YtgnkoffndhmhpaaGreatDoorP28
import Derived.Test.YtgnkoffndhmhpaaGreatDoorP38
import Derived.Test.YtgnkoffndhmhpaaGreatDoorP39
import Derived.Test.YtgnkoffndhmhpaaGreatDoorP40
namespace Go.Proofs.YtgnkoffndhmhpaaGreatDoor
open Go.RowKit
set_option linter.unusedVariables false
set_option linter.unusedSimpArgs false
set_option maxHeartbeats 8000000
set_option maxRecDepth 100000
theorem aJi {h:aO}(hok: ¬aS h=true):bF (aQ h) (cA h)= []:=by
 unfold cA;rw[if_neg hok];rfl
theorem aKh {h:aO}(hok:aS h=true):0≤cL h∧cL h≤8316:=by
 have:=aEj hok
 unfold cL;rw[if_pos hok];exact this
theorem uQ (p:OA)(n cap:Nat)(w:World)(h:(1048576:Int)<n):
  Calls Tryz.prog 7 #[.slice p n cap] w fun e w'=>e= .returned (.bool true)∧Ext w w':=by
 go_enter Tryz.func7,Tryz.ntmps7
 go_wp2
 go_ret
 exact⟨rfl,xE⟩
theorem yY (p0:OA)(n0 cap0:Nat)(w:World)(hn:(n0:Int)≤1048576)(HE:Hid (Env w))(HBt:Hid (BitTab w))
  (HD:Calls Tryz.prog 36 #[.slice p0 n0 cap0] w (kM w)):
  Calls Tryz.prog 7 #[.slice p0 n0 cap0] w fun e w'=>e= .returned (.bool true)∧Ext w w':=by
 unfold kM at HD
 have HD:=xQ HD
 have a5:decide ((1048576:Int)<(n0:Int))=false:=by simp;omega
 have a6:decide (1048576<n0)=false:=by simp;omega
 go_enter Tryz.func7,Tryz.ntmps7
 go_wp2_with fail
 refine HD.out.mono ?_
 rintro e w1 ⟨h,p,a,q,c2,rfl,bd,bp,hi,aw⟩
 have HI:=xQ hi
 have v:=xQ aw
 clear hi HD aw a5 a6
 obtain⟨ds,d⟩: ∃ds,bF (aQ h) (cA h)=ds:=⟨_,rfl⟩
 have a7:ds.length≤1048576:=by rw[←d];exact Nat.le_trans (aGs (h:=h) (by omega)) (by omega)
 have z:=xQ fun(w':World) (hx:Ext w1 w')=>yQ h p _ a q _ c2 w' (by omega) (HI.out.ext hx)
 have y:=xQ fun(w':World) (hx:Ext w1 w')=>xW h p _ a q _ c2 w' (by omega) (HI.out.ext hx)
 rw[d]at z y
 unfold mF at z y
 have a0:=xQ fun(w':World) (hx:Ext w1 w')=>kH h p _ a q _ c2 w' (HI.out.ext hx)
 go_wp2_with fail
 refine(z _ ((Mem.start w1).bn aL #[h.aA,h.aB,.slice p h.cells.length a,h.free,h.step,h.aD,h.aG,h.aC,h.aF,.slice q h.vs.length c2] (w1.heap.size)).ext).mono ?_
 rintro e w2 ⟨lq,lc,rfl,aq,ao⟩
 have M2:=(((Mem.start w1).bn aL #[h.aA,h.aB,.slice p h.cells.length a,h.free,h.step,h.aD,h.aG,h.aC,h.aF,.slice q h.vs.length c2] (w1.heap.size)).call ao aq)
 have ak:=M2.hi 1
 clear ao aq
 obtain⟨l,j,r,u,n,o,s,f,m,t⟩:=(M2.bk 1).ten
 go_wp2_with fail
 clear l j r u n o s f m t
 refine(y _ M2.ext).mono ?_
 rintro e w3 ⟨bl,bj,rfl,ay,au⟩
 have M3:=(M2.call au ay)
 clear M2 ak au ay
 have af:=M3.hi 2
 go_wp2_with fail
 refine(yD _ _ _ _ _ ds _ (M3.sq 1) (M3.sq 0)).mono ?_
 rintro e w4 ⟨rfl,av⟩
 have M4:=(M3.adv av)
 clear M3 af av z y
 have ag:=M4.hi 2
 have M5:=(show Mem w1 w4 [aJ w1.heap.size TDd 3 (lq) (ds.length) (lc) (ds.flatMap bW),aI w1.heap.size (w1.heap.size) aL #[h.aA,h.aB,.slice p h.cells.length a,h.free,h.step,h.aD,h.aG,h.aC,h.aF,.slice q h.vs.length c2]]from M4.pick [1,2] (by decide) rfl)
 clear M4 ag
 have am:=M5.hi 1
 obtain⟨l,j,r,u,n,o,s,f,m,t⟩:=(M5.bk 1).ten
 go_wp2_with fail
 clear l j r u n o s f m t
 refine(a0 _ M5.ext).mono ?_
 rintro e w6 ⟨rfl,ar⟩
 have M6:=(M5.adv ar)
 clear M5 am ar a0
 have an:=M6.hi 1
 by_cases hok:aS h=true
 ·skip
  rw[hok]
  have HR:=xQ fun(w':World) (lq:OA) (lc:Nat) (hx:Ext w1 w') (hS:Sl w' lq ds.length lc 3 (ds.flatMap bW))=>yM h p _ a q _ c2 lq _ lc ds w' (HI.out.ext hx) hS a7 (HBt.out.ext (v.out.trans hx))
  unfold rX aK8 at HR
  rw[if_pos hok]at HR
  obtain⟨g,hg⟩: ∃g,gW h ds=g:=⟨_,rfl⟩
  obtain⟨bs,hb⟩: ∃bs,eN h ds=bs:=⟨_,rfl⟩
  have ad:bs.length=ds.length:=by rw[←hb,rT]
  rw[hg,hb]at HR
  have aa:Hid (h.aF+cL h≤99999→ ∀x∈bs,x=true):=fun hle x hx=>by
   have:=(aL0 hok hle).1 x
   rw[d,hb]at this
   exact this hx
  have a9:=aKh hok
  obtain⟨_,_,bf,_,_⟩:=(dH h).1 hok
  have ap:=xQ fun(w':World) (hx:Ext w1 w')=>lL h p _ a q _ c2 w' (HI.out.ext hx)
  obtain⟨X,hX⟩: ∃x,cL h=x:=⟨_,rfl⟩
  rw[hX]at ap a9 aa
  dsimp only at HR
  rw[ad]at HR
  have br:=xQ ad
  clear hg hb d hX ad
  obtain⟨l,j,r,u,n,o,s,f,m,t⟩:=(M6.bk 1).ten
  go_wp2_with fail
  clear l j r u n o s f m t
  refine(HR _ _ _ M6.ext (M6.sq 0)).mono ?_
  rintro e w7 ⟨p5,c5,q5,d5,bq,bc,rfl,bh,bb,ax,az⟩
  clear HR
  have M7:=(M6.call az ax)
  clear M6 an az ax
  have ae:=M7.hi 2
  go_wp2
  have MA:=(show Mem w1 (w7.alloc (.cells #[g.aA,g.aB,.slice p5 g.cells.length c5,g.free,g.step,g.aD,g.aG,g.aC,g.aF,.slice q5 g.vs.length d5] aL)) [aJ w1.heap.size TB 1 (bq) (ds.length) (bc) (bcs bs),aJ w1.heap.size TDd 3 (lq) (ds.length) (lc) (ds.flatMap bW),aI w1.heap.size (w1.heap.size) aL #[h.aA,h.aB,.slice p h.cells.length a,h.free,h.step,h.aD,h.aG,h.aC,h.aF,.slice q h.vs.length c2]]from(M7.bn aL #[g.aA,g.aB,.slice p5 g.cells.length c5,g.free,g.step,g.aD,g.aG,g.aC,g.aF,.slice q5 g.vs.length d5] (w7.heap.size)).pick [1,2,3] (by decide) rfl)
  go_loopw [7] (fun i wr=> ∃k:Nat,k≤ds.length∧i= .int .i64 (k:Int)∧Mem w1 wr [aJ w1.heap.size TB 1 (bq) (ds.length) (bc) (bcs bs),aJ w1.heap.size TDd 3 (lq) (ds.length) (lc) (ds.flatMap bW),aI w1.heap.size (w1.heap.size) aL #[h.aA,h.aB,.slice p h.cells.length a,h.free,h.step,h.aD,h.aG,h.aC,h.aF,.slice q h.vs.length c2]]) (fun i _=>ds.length-(intOf i).toNat)
  case atStart=>exact⟨0,Nat.zero_le _,rfl,MA⟩
  case round=>
   clear MA M7 ae
   obtain⟨k,hk,rfl,hM⟩:=hrel
   have HM:=hM
   clear hM
   have a1:w1.heap.size<wr.heap.size:=(HM.hi 2)
   by_cases hlt:k<ds.length
   ·skip
    obtain⟨b,c,x,rfl,hx,hb,g0⟩:=aLz (HM.sq 0) hlt
    have i1:(0:Int)≤(k:Int):=by omega
    have i2:(k:Int)<(ds.length:Int):=by omega
    have HX:=xQ hx
    clear hx
    go_upto_region 13 with fail
    cases x with
    |true=>
     refine rL (gl [gEq (.slice (some ⟨b,c,none⟩) ds.length bc),gEq (k:Int),gEq (.pointer (some ⟨b,c+k,none⟩)),gEq (.bool true),gEq (.bool false),gEq (.bool false),gEq (undef),gEq (undef),gEq (undef),gEq (undef),gEq (undef),gEq (undef),gEq (.bool false)]) 13 13 [(0,some 41),(1,some 42),(2,some 43),(3,some 44),(4,some 45),(5,some 46),(6,some 47),(7,some 48),(8,some 49),(9,some 50),(10,some 51),(11,some 52),(12,some 53)] ?steps ?fin
     case steps=>
      refine sS0 [] (sS0 [] (sS2 [(0,some 41),(1,some 42)] ?_))
      refine sC [(2,some 43)] rfl (fun wi hx=> ?_) ?_
      ·intro v2 h2 K hK
       obtain rfl:=h2
       have hX:Ext wr wi:=xE
       have ai:wi.cell? ⟨b,c+k,none⟩=some (.bool true):=(hX.cells.1 _ _ hb).trans g0
       go_simp
       exact hK _ _ ⟨.bool true,rfl,rfl,Ext.refl _⟩
      exact sS1 [(3,some 44)] (sS1 [(4,some 45)] (sS1 [(5,some 46)] (sS2 [(5,some 46),(6,some 47)] (sS1 [(5,some 46)] (sS2 [(5,some 46),(8,some 49)] (sS3 [(5,some 46),(7,some 48),(9,some 50)] (sS2 [(5,some 46),(10,some 51)] (sS2 [(5,some 46),(11,some 52)] StepsL.nil))))))))
     case fin=>
      intro wi hx v0 h0 v1 h1 v2 h2 v3 h3 v4 h4 v5 h5 v6 h6 v7 h7 v8 h8 v9 h9 ba ah a8 al a4 aj
      obtain rfl:=h0
      obtain rfl:=h1
      obtain rfl:=h2
      obtain rfl:=h3
      obtain rfl:=h4
      obtain rfl:=h5
      obtain rfl:=h6
      obtain rfl:=h7
      obtain rfl:=h8
      obtain rfl:=h9
      obtain rfl:=ah
      obtain rfl:=al
      obtain rfl:=aj
      refine wpAny_done (by kernel_rfl) ?_ _
      try simp only[Act.put,List.setIfInBounds_toArray,List.set_cons_zero,List.set_cons_succ]
      have ab:=hx.of_drew
      go_wp2
      go_roundw
      case rel=>exact⟨k+1,by omega,by go_num,HM.adv ab⟩
      case measure=>simp[intOf];omega
    |false=>
     have bz: ¬(h.aF+X≤99999):=fun hle=>by
      have:=aa.out hle false (List.mem_of_getElem? HX.out)
      simp at this
     have t1:decide (h.aF+X≤99999)=false:=by simp;omega
     refine rL (gl [gEq (.slice (some ⟨b,c,none⟩) ds.length bc),gEq (k:Int),gEq (.pointer (some ⟨b,c+k,none⟩)),gEq (.bool false),gEq (.bool true),gEq (.bool true),gEq (.pointer (some ⟨w1.heap.size,8,none⟩)),gEq (h.aF:Int),gEq (.agg #[(h.aA:Int),(h.aB:Int),.slice p h.cells.length a,(h.free:Int),(h.step:Int),(h.aD:Int),(h.aG:Int),(h.aC:Int),(h.aF:Int),.slice q h.vs.length c2]),gEq X,gEq (h.aF+X:Int),gEq (.bool false),gEq (.bool false)]) 13 13 [(0,some 41),(1,some 42),(2,some 43),(3,some 44),(4,some 45),(5,some 46),(6,some 47),(7,some 48),(8,some 49),(9,some 50),(10,some 51),(11,some 52),(12,some 53)] ?steps ?fin
     case steps=>
      refine sS0 [] (sS0 [] (sS2 [(0,some 41),(1,some 42)] ?_))
      refine sC [(2,some 43)] rfl (fun wi hx=> ?_) ?_
      ·intro v2 h2 K hK
       obtain rfl:=h2
       have hX:Ext wr wi:=xE
       have ai:wi.cell? ⟨b,c+k,none⟩=some (.bool false):=(hX.cells.1 _ _ hb).trans g0
       go_simp
       exact hK _ _ ⟨.bool false,rfl,rfl,Ext.refl _⟩
      refine sS1 [(3,some 44)] (sS1 [(4,some 45)] (sS1 [(5,some 46)] ?_))
      refine sC [(5,some 46),(6,some 47)] rfl (fun wi hx=> ?_) ?_
      ·intro v5 h5 v6 h6 K hK
       obtain rfl:=h5
       obtain rfl:=h6
       have hX:Ext wr wi:=xE
       have ai:=((HM.bk 2).ext hX).cl 8
       go_simp
       exact hK _ _ ⟨.int .i64 (h.aF),rfl,rfl,Ext.refl _⟩
      refine sC [(5,some 46)] rfl (fun wi hx=> ?_) ?_
      ·intro v5 h5 K hK
       obtain rfl:=h5
       have hX:Ext wr wi:=xE
       obtain⟨ai,bu,bm,bv,bi,bx,bg,bw,bo,bt⟩:=((HM.bk 2).ext hX).ten
       go_simp
       exact hK _ _ ⟨.agg #[(h.aA:Int),(h.aB:Int),.slice p h.cells.length a,(h.free:Int),(h.step:Int),(h.aD:Int),(h.aG:Int),(h.aC:Int),(h.aF:Int),.slice q h.vs.length c2],rfl,rfl,Ext.refl _⟩
      refine sC [(5,some 46),(8,some 49)] rfl (fun wi hx=> ?_) ?_
      ·intro v5 h5 v8 h8 K hK
       obtain rfl:=h5
       obtain rfl:=h8
       go_simp
       refine(ap _ (HM.ext.trans hx.of_drew)).mono ?_
       rintro e w5 ⟨rfl,a3⟩
       go_simp
       exact hK _ _ ⟨.int .i64 X,rfl,rfl,a3⟩
      refine sC [(5,some 46),(7,some 48),(9,some 50)] rfl (fun wi hx=> ?_) ?_
      ·intro v5 h5 v7 h7 v9 h9 K hK
       obtain rfl:=h5
       obtain rfl:=h7
       obtain rfl:=h9
       have be:IntKind.i64.wrap (h.aF+X)=h.aF+X:=IntWalk.i64_in _ (by omega)
       go_simp
       exact hK _ _ ⟨.int .i64 (h.aF+X),rfl,rfl,Ext.refl _⟩
      exact sS2 [(5,some 46),(10,some 51)] (sS2 [(5,some 46),(11,some 52)] StepsL.nil)
     case fin=>
      intro wi hx v0 h0 v1 h1 v2 h2 v3 h3 v4 h4 v5 h5 v6 h6 v7 h7 v8 h8 v9 h9 ba ah a8 al a4 aj
      obtain rfl:=h0
      obtain rfl:=h1
      obtain rfl:=h2
      obtain rfl:=h3
      obtain rfl:=h4
      obtain rfl:=h5
      obtain rfl:=h6
      obtain rfl:=h7
      obtain rfl:=h8
      obtain rfl:=h9
      obtain rfl:=ah
      obtain rfl:=al
      obtain rfl:=aj
      refine wpAny_done (by kernel_rfl) ?_ _
      try simp only[Act.put,List.setIfInBounds_toArray,List.set_cons_zero,List.set_cons_succ]
      have ab:=hx.of_drew
      go_wp2
      go_roundw
      case rel=>exact⟨k+1,by omega,by go_num,HM.adv ab⟩
      case measure=>simp[intOf];omega
   ·skip
    obtain rfl:k=ds.length:=by omega
    go_wp2
    go_ret
    exact⟨rfl,v.out.trans HM.ext⟩
 ·skip
  obtain rfl:ds= []:=by rw[←d];exact aJi hok
  rw[show aS h=false by simpa using hok]
  clear d hok
  go_wp2_with fail
  refine(oS _ (HE.out.ext (v.out.trans M6.ext))).mono ?_
  rintro e w9 ⟨rfl,a2⟩
  have X9:Ext w w9:=v.out.trans (M6.ext.trans a2)
  go_wp2
  go_ret
  exact⟨rfl,X9⟩
theorem walk_FnEndDeeds (W:World)(v:Value)(u:Unit)(hc:Code W v)(hE:Env W)(hB:BitTab W):Calls Tryz.prog 7 #[v] W fun e w'=>e= .returned (.bool true)∧Ext W w':=by
 have hD:=zD v W hc
 obtain⟨p0,n,a,bs,rfl,h,hb⟩:=hc
 by_cases hn:(n:Int)≤1048576
 ·exact yY p0 n a W hn (xQ hE) (xQ hB) hD
 ·exact uQ p0 n a W (by omega)
end Go.Proofs.YtgnkoffndhmhpaaGreatDoor
