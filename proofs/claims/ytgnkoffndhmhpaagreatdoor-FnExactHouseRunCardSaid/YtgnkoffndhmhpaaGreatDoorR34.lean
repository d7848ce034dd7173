/-
  Texts of this proof, packed (@packed).
-/
import Derived.Test.YtgnkoffndhmhpaaGreatDoorR10
import Derived.Test.YtgnkoffndhmhpaaGreatDoorR17
import Derived.Test.YtgnkoffndhmhpaaGreatDoorR21
import Derived.Test.YtgnkoffndhmhpaaGreatDoorR29
import Derived.Test.YtgnkoffndhmhpaaGreatDoorR31
import Derived.Test.YtgnkoffndhmhpaaGreatDoorR33
namespace Go.Proofs.YtgnkoffndhmhpaaGreatDoor
open Go.RowKit
set_option linter.unusedVariables false
set_option linter.unusedSimpArgs false
set_option maxHeartbeats 8000000
set_option maxRecDepth 100000
theorem aJ3 (aA aB:Int)(c:Nat)(id:Int)(p:OA)(n cap:Nat)(xs:List Int)(w:World)(hS:Sl w p n cap 1 (ivs xs))(hok:aP aA aB xs=true)(hc:xs[c]? =some id) (h0:id≠0) (hE:BitTab w):
  Calls Tryz.prog 179 #[aI aA aB p n cap,(c:Int)] w (iD (dD aA xs c) w):=by
 have hl:=hS.ilen
 subst hl
 obtain⟨g1,g2,g3,g4,g5,g6,g7,g8,g9⟩:=bN hok
 have hpow:(2:Nat) ^ xs.length≤4096:=Nat.le_trans (Nat.pow_le_pow_right (by omega) g6) (by decide)
 have hpos:=Nat.two_pow_pos xs.length
 have hcl:=(List.getElem?_eq_some_iff.1 hc).1
 have hN:xs.length*2 ^ xs.length≤12*4096:=Nat.mul_le_mul g6 hpow
 have hC:c*2 ^ xs.length≤12*4096:=Nat.mul_le_mul (by omega) hpow
 have hnN:xs.length≤xs.length*2 ^ xs.length:=Nat.le_mul_of_pos_right _ hpos
 obtain⟨p1,p2,p3⟩:=pA hok hc h0
 have hD:=jQ (aA:=aA) (many:=(bI xs).length) g6
 have hbd:=(oM g5 g6 hD).bd
 obtain⟨pb,po,rfl,hb,hcc⟩:=hS.rd (by omega)
 have hSOK: ∀(k:Nat) (B:List Int) (Q:List Nat),aHj aA xs c k B Q→SOk (xs.length*2 ^ xs.length) B Q:=fun k B Q hr=>(hr.ok p1 hbd).1
 refine aGq aA aB pb po xs.length cap (xs.length*2 ^ xs.length) (2 ^ xs.length) c (c*2 ^ xs.length) (eD xs.length (st0 xs c)) xs (cK xs) (fun u=>lF aA xs.length (2 ^ xs.length) u) w g5 g6 rfl hb hE (by omega) hnN hC rfl rfl rfl rfl p1 (by simp) ?_ ?_ (fun k x hx=> ?_) rfl (fun k x hx=> ?_) (fun k hk w' hx=> ?_) (fun u v hu hv=>hbd u v hu hv) (fun k B Q hr=>hSOK k B Q hr) (fun k u B Q hr hu hz=> ?_) (fun k B Q hr hk=>aAv hok g5 g6 hc h0 hr hk)
 ·have e:(c:Int)*((2 ^ xs.length:Nat):Int)=((c*2 ^ xs.length:Nat):Int):=by push_cast;rfl
  rw[e];exact IntWalk.i64_in _ (by omega)
 ·have e:(xs.length:Int)*((2 ^ xs.length:Nat):Int)=((xs.length*2 ^ xs.length:Nat):Int):=by push_cast;rfl
  rw[e];exact IntWalk.i64_in _ (by omega)
 ·have hk:=(List.getElem?_eq_some_iff.1 hx).1
  rw[eV hk,List.getD_eq_getElem?_getD,hx];rfl
 ·have hk:=(List.getElem?_eq_some_iff.1 hx).1
  rw[hcc k (by omega)]
  simp only[ivs,List.getElem?_map,hx,Option.map_some]
 ·have:=aBs aA aB k _ xs.length cap xs w' (hS.ext hx) hok (by omega) (by omega)
  rwa[jF]at this
 ·obtain⟨d,hd⟩:=xX hok g5 g6 hc h0 hr hu hz
  exact⟨d,_,_,hd.d60,hd.trail g6 (hSOK k B Q hr).len,rfl,hd.last.symm,hd.way⟩
theorem aEf (aA aB id:Int)(p:OA)(n cap:Nat)(w:World)
  (HF:xC 178 #[aI aA aB p n cap,id] w fun w' e w''=>e= .returned (.int .i64 (-1))∧Ext w' w''):
  Calls Tryz.prog 151 #[aI aA aB p n cap,id] w (iD none w):=by
 go_enter Tryz.func151,Tryz.ntmps151
 go_wp2_with fail
 refine(HF.out _ (Mem.b1 w).ext).mono ?_
 rintro e w1 ⟨rfl,hx1⟩
 have M1:=xQ ((Mem.b1 w).adv hx1)
 have lt1_0:=M1.out.hi 0
 clear hx1
 have HX:=xQ (M1.out.ext)
 go_wp2
 exact bodyPost_ret (v:= .tuple #[((),()),.bool false]) (by simp[results,Tryz.results151,go_sem, *]) rfl ⟨_,rfl,HX.out⟩
theorem aBt (aA aB id:Int)(c:Nat)(p:OA)(n cap:Nat)(r:Option (List Sl2))(w:World)
  (HF:xC 178 #[aI aA aB p n cap,id] w fun w' e w''=>e= .returned (.int .i64 (c:Int))∧Ext w' w'')
  (HB:Hid (∀w',Ext w w'→Calls Tryz.prog 179 #[aI aA aB p n cap,(c:Int)] w' (iD r w'))):
  Calls Tryz.prog 151 #[aI aA aB p n cap,id] w (iD r w):=by
 have t0: ¬((c:Int)<0):=by omega
 go_enter Tryz.func151,Tryz.ntmps151
 go_wp2_with fail
 refine(HF.out _ (Mem.b1 w).ext).mono ?_
 rintro e w1 ⟨rfl,hx1⟩
 have M1:=xQ ((Mem.b1 w).adv hx1)
 have lt1_0:=M1.out.hi 0
 clear hx1
 obtain⟨h0,h1,h2⟩:=((M1.out.blk (i:=0) rfl)).tri
 go_wp2_with fail
 clear h0 h1 h2
 have HX:=xQ (M1.out.ext)
 refine(HB.out _ HX.out).mono ?_
 intro e w9 hr
 have HB2:=xQ hr
 clear hr HB
 cases r with
 |none=>
  obtain⟨v,rfl,hx9⟩:=HB2.out
  go_wp2
  exact bodyPost_ret (v:= .tuple #[v,.bool false]) (by simp[results,Tryz.results151,go_sem, *]) rfl ⟨_,rfl,HX.out.trans hx9⟩
 |some l=>
  obtain⟨q9,c9,rfl,o9,hx9⟩:=HB2.out
  go_wp2
  exact bodyPost_ret (v:= .tuple #[.slice q9 l.length c9,.bool true]) (by simp[results,Tryz.results151,go_sem, *]) rfl ⟨q9,c9,rfl,bG o9 HX.out.sz,HX.out.trans hx9⟩
theorem rY (aA aB id:Int)(p:OA)(n cap:Nat)(xs:List Int)(w:World)(hlen:Hid (xs.length=n))
  (HV:xB 80 #[aI aA aB p n cap] w true)
  (HB:xC 151 #[aI aA aB p n cap,id] w fun w' e w''=> ∃v,e= .returned (.tuple #[v,.bool false])∧Ext w' w'')
  (HL:xC 105 #[aI aA aB p n cap] w fun w' e w''=> ∃q c,e= .returned (aI aA aB q n c)∧w''.ownsRow w'.heap.size TI 1 (.slice q n c) n (ivs xs)∧Ext w' w''):
  Calls Tryz.prog 116 #[aI aA aB p n cap,id] w (cI aA aB xs (-1) w):=by
 go_enter Tryz.func116,Tryz.ntmps116
 go_wp2_with fail
 refine(HV.out _ (Mem.b2 w).ext).mono ?_
 rintro e w1 ⟨rfl,hx1⟩
 have M1:=xQ ((Mem.b2 w).adv hx1)
 have lt1_0:=M1.out.hi 0
 have lt1_1:=M1.out.hi 1
 clear hx1
 obtain⟨h0,h1,h2⟩:=((M1.out.blk (i:=1) rfl)).tri
 go_wp2_with fail
 clear h0 h1 h2
 refine(HB.out _ M1.out.ext).mono ?_
 rintro e w2 ⟨v,rfl,hx2⟩
 have M2:=xQ ((M1.out).adv hx2)
 clear M1 lt1_0 lt1_1
 have lt2_0:=M2.out.hi 0
 have lt2_1:=M2.out.hi 1
 clear hx2
 obtain⟨h0,h1,h2⟩:=((M2.out.blk (i:=1) rfl)).tri
 go_wp2_with fail
 clear h0 h1 h2
 refine(HL.out _ M2.out.ext).mono ?_
 rintro e w3 ⟨q0,c0,rfl,ho3,hx3⟩
 have M3:=xQ ((M2.out).call hx3 ho3)
 clear M2 lt2_0 lt2_1
 have lt3_1:=M3.out.hi 1
 have lt3_2:=M3.out.hi 2
 clear hx3 ho3
 obtain⟨z0,zf0,z1,zf1,z2,zf2⟩:=((M3.out.blk (i:=1) rfl)).trif
 go_wp2
 have M4:=xQ (((((M3.out).st 1 0 (.int .i64 aA))).st 1 1 (.int .i64 aB)))
 have M5:=xQ (((M4.out).st 1 2 (.slice q0 n c0)))
 clear z0 zf0 z1 zf1 z2 zf2
 have M6:=xQ (show Mem w (((w3.setCell ⟨w.heap.size+1,0,none⟩ (.int .i64 aA)).setCell ⟨w.heap.size+1,1,none⟩ (.int .i64 aB)).setCell ⟨w.heap.size+1,2,none⟩ (.slice q0 n c0)) [aJ w.heap.size TI 1 (q0) (n) (c0) (ivs xs),aL w.heap.size (w.heap.size+1) TH3 #[aA,aB,.slice q0 n c0],aL w.heap.size (w.heap.size) TH3 #[aA,aB,.slice p n cap]]from M5.out)
 generalize hwz:World.setCell _ _ _=wz
 rw[hwz]at M6
 clear hwz M3 M4 M5
 obtain⟨y0,y1,y2⟩:=((M6.out.blk (i:=1) rfl)).tri
 exact bodyPost_ret (v:= .tuple #[.agg #[aA,aB,.slice q0 n c0],(-1:Int)]) (by simp[results,Tryz.results116,go_sem, *]) rfl (dX hlen.out (M6.out.own (i:=0) rfl) M6.out.ext)
theorem zC (aA aB id:Int)(p:OA)(n cap K:Nat)(y0:Int)(ys:List Int)(sl:List Sl2)(w:World)(hn0:0<n)(hlen:Hid (ys.length=n))(HY0:Hid (ys[0]? =some y0))
  (HV:xB 80 #[aI aA aB p n cap] w true)
  (HB:xC 151 #[aI aA aB p n cap,id] w fun w' e w''=> ∃q c,e= .returned (.tuple #[.slice q K c,.bool true])∧w''.ownsRow w'.heap.size TSL 2 (.slice q K c) K (sl.flatMap aM)∧Ext w' w'')
  (HR:Hid (∀w' q c,Ext w w'→Sl w' q K c 2 (sl.flatMap aM)→Calls Tryz.prog 147 #[aI aA aB p n cap,.slice q K c] w' fun e w''=> ∃q c,e= .returned (aI aA aB q n c)∧w''.ownsRow w'.heap.size TI 1 (.slice q n c) n (ivs ys)∧Ext w' w'')):
  Calls Tryz.prog 116 #[aI aA aB p n cap,id] w (cI aA aB (ys.set 0 0) (K:Int) w):=by
 go_enter Tryz.func116,Tryz.ntmps116
 go_wp2_with fail
 refine(HV.out _ (Mem.b2 w).ext).mono ?_
 rintro e w1 ⟨rfl,hx1⟩
 have M1:=xQ ((Mem.b2 w).adv hx1)
 have lt1_0:=M1.out.hi 0
 have lt1_1:=M1.out.hi 1
 clear hx1
 obtain⟨h0,h1,h2⟩:=((M1.out.blk (i:=1) rfl)).tri
 go_wp2_with fail
 clear h0 h1 h2
 refine(HB.out _ M1.out.ext).mono ?_
 rintro e w2 ⟨qs,cs,rfl,ho2,hx2⟩
 have M2:=xQ ((M1.out).call hx2 ho2)
 clear M1 lt1_0 lt1_1
 have lt2_1:=M2.out.hi 1
 have lt2_2:=M2.out.hi 2
 clear hx2 ho2
 obtain⟨h0,h1,h2⟩:=((M2.out.blk (i:=2) rfl)).tri
 go_wp2_with fail
 clear h0 h1 h2
 refine(HR.out _ qs cs M2.out.ext (M2.out.sl (i:=0) rfl)).mono ?_
 rintro e w3 ⟨q1,c1,rfl,ho3,hx3⟩
 have M3:=xQ ((M2.out).call hx3 ho3)
 clear M2 lt2_1 lt2_2
 have lt3_2:=M3.out.hi 2
 have lt3_3:=M3.out.hi 3
 clear hx3 ho3
 obtain⟨g,rfl,hg1,hg2⟩:=M3.out.some (i:=0) rfl (by omega)
 clear hg1 hg2
 go_upto_region 7 with fail
 obtain⟨gV,hgV⟩: ∃gV,gV=w3.heap.size:=⟨_,rfl⟩
 rw[←hgV]
 have M4:=xQ (((M3.out).blkNew TH3 #[aA,aB,.slice (some ⟨g,0,none⟩) n c1] gV hgV.symm))
 generalize World.alloc _ _=w7 at M4⊢
 clear M3 lt3_2 lt3_3
 have lt4_0:=M4.out.hi 0
 have lt4_3:=M4.out.hi 3
 have lt4_4:=M4.out.hi 4
 clear hgV
 obtain⟨v0,v1,v2⟩:=((M4.out.blk (i:=0) rfl)).tri
 have gi:w7.cell? ⟨g,0,none⟩=some (.int .i64 y0):=by have:=(M4.out.own (i:=1) rfl).cellAt 0 (by omega);rw[this];simpa[ivs]using HY0.out
 have gif:w7.frozen? ⟨g,0,none⟩=false:=(M4.out.own (i:=1) rfl).frozenAt 0
 have nc0_1a: ¬(gV=g):=M4.out.ne (i:=0) (j:=1) (by omega) rfl rfl rfl rfl
 have nc0_1b: ¬(g=gV):=fun h=>nc0_1a h.symm
 go_upto_region 8 with fail
 clear v0 v1 v2 nc0_1a nc0_1b gi gif
 have MX:=xQ (show Mem w (w7.setCell ⟨g,0,none⟩ (.int .i64 0)) [aL w.heap.size (gV) TH3 #[aA,aB,.slice (some ⟨g,0,none⟩) n c1],aJ w.heap.size TI 1 (some ⟨g,0,none⟩) (n) (c1) (ivs (ys.set 0 0)),aJ w.heap.size TSL 2 (qs) (K) (cs) (sl.flatMap aM),aL w.heap.size (w.heap.size+1) TH3 #[(),(),((),())],aL w.heap.size (w.heap.size) TH3 #[aA,aB,.slice p n cap]]from by rw[←dI];exact M4.out.ostore (i:=1) rfl 0 (.int .i64 0))
 generalize hw5:World.setCell _ _ _=w8
 rw[hw5]at MX
 clear hw5 M4 lt4_0 lt4_3 lt4_4
 have lt9_0:gV<w8.heap.size:=(MX.out.lt (i:=0) rfl rfl).2
 have lt9_3:w.heap.size+1<w8.heap.size:=(MX.out.lt (i:=3) rfl rfl).2
 have lt9_4:w.heap.size<w8.heap.size:=(MX.out.lt (i:=4) rfl rfl).2
 obtain⟨v0,v1,v2⟩:=((MX.out.blk (i:=0) rfl)).tri
 obtain⟨z0,zf0,z1,zf1,z2,zf2⟩:=((MX.out.blk (i:=3) rfl)).trif
 have ne0_1a: ¬(gV=w.heap.size+1):=MX.out.ne (i:=0) (j:=3) (by omega) rfl rfl rfl rfl
 have ne0_1b: ¬(w.heap.size+1=gV):=fun h=>ne0_1a h.symm
 go_wp2
 have M10:=xQ (((((MX.out).st 3 0 (.int .i64 aA))).st 3 1 (.int .i64 aB)))
 have M11:=xQ (((M10.out).st 3 2 (.slice (some ⟨g,0,none⟩) n c1)))
 clear v0 v1 v2 z0 zf0 z1 zf1 z2 zf2 ne0_1a ne0_1b
 have M12:=xQ (show Mem w (((w8.setCell ⟨w.heap.size+1,0,none⟩ (.int .i64 aA)).setCell ⟨w.heap.size+1,1,none⟩ (.int .i64 aB)).setCell ⟨w.heap.size+1,2,none⟩ (.slice (some ⟨g,0,none⟩) n c1)) [aL w.heap.size (gV) TH3 #[aA,aB,.slice (some ⟨g,0,none⟩) n c1],aJ w.heap.size TI 1 (some ⟨g,0,none⟩) (n) (c1) (ivs (ys.set 0 0)),aJ w.heap.size TSL 2 (qs) (K) (cs) (sl.flatMap aM),aL w.heap.size (w.heap.size+1) TH3 #[aA,aB,.slice (some ⟨g,0,none⟩) n c1],aL w.heap.size (w.heap.size) TH3 #[aA,aB,.slice p n cap]]from M11.out)
 generalize hwz:World.setCell _ _ _=wz
 rw[hwz]at M12
 clear hwz MX M10 M11
 obtain⟨y0,y1,y2⟩:=((M12.out.blk (i:=3) rfl)).tri
 exact bodyPost_ret (v:= .tuple #[.agg #[aA,aB,.slice (some ⟨g,0,none⟩) n c1],(K:Int)]) (by simp[results,Tryz.results116,go_sem, *]) rfl (dX (by rw[List.length_set];exact hlen.out) (M12.out.own (i:=1) rfl) M12.out.ext)
theorem aEb (aA aB id:Int)(p:OA)(n cap:Nat)(xs:List Int)(w:World)(hS:Sl w p n cap 1 (ivs xs))(hok:aP aA aB xs=true)(hE:BitTab w):
  Calls Tryz.prog 116 #[aI aA aB p n cap,id] w (cI aA aB (bQ aA aB xs id).1 (bQ aA aB xs id).2 w):=by
 have hl:=hS.ilen
 subst hl
 obtain⟨g1,g2,g3,g4,g5,g6,g7⟩:=bR (cF hok)
 have HV: ∀w',Ext w w'→Calls Tryz.prog 80 #[aI aA aB p xs.length cap] w' fun e w''=>e= .returned (.bool true)∧Ext w' w'':=fun w' hy=>by
  have:=fJ aA aB p xs.length cap xs w' (hS.ext hy)
  rwa[hok]at this
 have HL:=fun(w':World) (hy:Ext w w')=>jN aA aB p xs.length cap xs w' (by omega) (hS.ext hy)
 by_cases hno:id<1∨id∉xs
 ·have e:bQ aA aB xs id=(xs,-1):=by unfold bQ kF;rw[if_pos hno]
  rw[e]
  refine rY aA aB id p xs.length cap xs w rfl HV (fun w' hy=> ?_) HL
  refine aEf aA aB id p xs.length cap w' (fun w2 hy2=> ?_)
  have:=uA aA aB id p xs.length cap xs w2 (hS.ext (hy.trans hy2))
  rwa[aCm hno]at this
 ·have hid0:1≤id:=by omega
  have hm:id∈xs:=by
   by_cases hm:id∈xs
   ·exact hm
   ·exact absurd (.inr hm) hno
  obtain⟨c,hc,hci⟩:=rZ hm
  have hf:fX aA aB xs id=(c:Int):=by unfold fX;rw[if_pos ⟨hok,hid0⟩];exact hci
  have HB: ∀w',Ext w w'→Calls Tryz.prog 151 #[aI aA aB p xs.length cap,id] w' (iD (dD aA xs c) w'):=fun w' hy=>by
   refine aBt aA aB id c p xs.length cap _ w' (fun w2 hy2=> ?_) (fun w2 hy2=>aJ3 aA aB c id p xs.length cap xs w2 (hS.ext (hy.trans hy2)) hok hc (by omega) (hE.ext (hy.trans hy2)))
   have:=uA aA aB id p xs.length cap xs w2 (hS.ext (hy.trans hy2))
   rwa[hf]at this
  have hcn:(mV xs id).toNat=c:=by rw[hci];simp
  cases hb:dD aA xs c with
  |none=>
   have e:bQ aA aB xs id=(xs,-1):=by unfold bQ kF;rw[if_neg hno,hcn,hb];rfl
   rw[e]
   rw[hb]at HB
   exact rY aA aB id p xs.length cap xs w rfl HV HB HL
  |some l=>
   obtain⟨b1,ys,b2,b3,b4,b5⟩:=(mD hok hc (by omega)).2 l hb
   have e:bQ aA aB xs id=(ys.set 0 0,(l.length:Int)):=by unfold bQ kF;rw[if_neg hno,hcn,hb];simp[b2]
   rw[e]
   rw[hb]at HB
   have hdo:dS aA aB xs l=ys:=nR _ _ _ b2
   refine zC aA aB id p xs.length cap l.length id ys l w (by omega) b4 b5 HV HB (fun w' q c' hy hL=> ?_)
   have:=uB aA aB p xs.length cap xs q l.length c' l w' rfl (hS.ext hy) hok hL
   rw[hdo]at this
   unfold dF at this
   rw[b4]at this
   exact this
theorem aEe (w:World)(gA:Nat)(aA aB free step aE aF aC aG id slides:Int)(p:OA)(n cap:Nat)(q:OA)(m c2:Nat)(ys:List Int)(h0:slides<0)(hA:Hid (Blk w gA aO #[aA,aB,.slice (p) n cap,free,step,aE,aF,aC,aG,.slice (q) m c2]))
  (HS:xC 112 #[aI aA aB p n cap,id] w fun w' e w''=> ∃q c,e= .returned (.tuple #[aI aA aB q n c,slides])∧w''.ownsRow w'.heap.size TI 1 (.slice q n c) n (ivs ys)∧Ext w' w''):
  Calls Tryz.prog 67 #[.pointer (some ⟨gA,0,none⟩),id] w fun e w'=>e= .returned (.tuple #[(-1:Int),.bool false])∧Ext w w':=by
 go_enter Tryz.func67,Tryz.ntmps67
 obtain⟨a0,a1,a2,a3,a4,a5,a6,a7,a8,a9⟩:=hA.out.ten
 have hlt:=hA.out.lt
 go_wp2_with fail
 clear a0 a1 a2 a3 a4 a5 a6 a7 a8 a9
 refine(HS.out _ (Ext.refl _)).mono ?_
 rintro e w1 ⟨p1,c1,rfl,ho1,hx1⟩
 have M1:=xQ ((Mem.start w).call hx1 ho1)
 clear hx1 ho1
 have hX:=xQ M1.out.ext
 go_wp2
 exact bodyPost_ret (v:= .tuple #[(-1:Int),.bool false]) (by simp[results,Tryz.results67,go_sem, *]) rfl ⟨rfl,by have:=hX.out;exact xE⟩
theorem aBr (w0 w:World)(R:Item)(gA:Nat)(aA aB free step aE aF aC aG id slides:Int)(p:OA)(n cap:Nat)(q:OA)(m c2:Nat)(xs ys:List Int)(vs:List aQ)(hm:m≤900)(h0:0≤slides)(hl:Hid (vs.length=m))(hM:Hid (Mem w0 w [aJ w0.heap.size TI 1 (p) (n) (cap) (ivs (xs)),aJ w0.heap.size TV 4 (q) (m) (c2) ((vs).flatMap aD),aL w0.heap.size (gA) aO #[aA,aB,.slice (p) n cap,free,step,aE,aF,aC,aG,.slice (q) m c2],R]))
  (HS:xC 112 #[aI aA aB p n cap,id] w fun w' e w''=> ∃q c,e= .returned (.tuple #[aI aA aB q n c,slides])∧w''.ownsRow w'.heap.size TI 1 (.slice q n c) n (ivs ys)∧Ext w' w''):
  Calls Tryz.prog 67 #[.pointer (some ⟨gA,0,none⟩),id] w fun e w'=> ∃p1 c1 q9 c9,e= .returned (.tuple #[slides,.bool true])∧Mem w0 w' [aJ w0.heap.size TI 1 (p1) (n) (c1) (ivs (ys)),aJ w0.heap.size TV 4 (q9) ((m+1)) (c9) ((iZ (id,aC,0,aC) vs).flatMap aD),aL w0.heap.size (gA) aO #[aA,aB,.slice (p1) n c1,free,step,aE,aF,aC,aG,.slice (q9) (m+1) c9],R]:=by
 go_enter Tryz.func67,Tryz.ntmps67
 have lt0_2:gA<w.heap.size:=(hM.out.lt (i:=2) rfl rfl).2
 have a0:w.cell? ⟨gA,0,none⟩=some (.int .i64 aA):=(hM.out.blk (i:=2) rfl).cell 0
 have a1:w.cell? ⟨gA,1,none⟩=some (.int .i64 aB):=(hM.out.blk (i:=2) rfl).cell 1
 have a2:w.cell? ⟨gA,2,none⟩=some (.slice (p) n cap):=(hM.out.blk (i:=2) rfl).cell 2
 go_wp2_with fail
 clear a0 a1 a2
 refine(HS.out _ (Ext.refl _)).mono ?_
 rintro e w1 ⟨p1,c1,rfl,ho1,hx1⟩
 have M1:=xQ ((hM.out).call hx1 ho1)
 clear hM lt0_2
 have lt1_3:=M1.out.hi 3
 clear hx1 ho1
 go_upto_region 2 with fail
 obtain⟨gV,hgV⟩: ∃gV,gV=w1.heap.size:=⟨_,rfl⟩
 rw[←hgV]
 have M2:=xQ (((M1.out).blkNew TH3 #[aA,aB,.slice p1 n c1] gV hgV.symm))
 generalize World.alloc _ _=w2 at M2⊢
 clear M1 lt1_3
 have lt2_0:=M2.out.hi 0
 have lt2_4:=M2.out.hi 4
 clear hgV
 have t0:decide (slides<0)=false:=by simp;omega
 obtain⟨v0,v1,v2⟩:=(M2.out.blk (i:=0) rfl).tri
 have a0:w2.cell? ⟨gA,0,none⟩=some (.int .i64 aA):=(M2.out.blk (i:=4) rfl).cell 0
 have af0:w2.frozen? ⟨gA,0,none⟩=false:=(M2.out.blk (i:=4) rfl).frozen 0
 have a1:w2.cell? ⟨gA,1,none⟩=some (.int .i64 aB):=(M2.out.blk (i:=4) rfl).cell 1
 have af1:w2.frozen? ⟨gA,1,none⟩=false:=(M2.out.blk (i:=4) rfl).frozen 1
 have a2:w2.cell? ⟨gA,2,none⟩=some (.slice (p) n cap):=(M2.out.blk (i:=4) rfl).cell 2
 have af2:w2.frozen? ⟨gA,2,none⟩=false:=(M2.out.blk (i:=4) rfl).frozen 2
 have ne0_1a: ¬(gV=gA):=M2.out.ne (i:=0) (j:=4) (by omega) rfl rfl rfl rfl
 have ne0_1b: ¬(gA=gV):=fun h=>ne0_1a h.symm
 go_upto_region 5 with fail
 clear v0 v1 v2 a0 af0 a1 af1 a2 af2 ne0_1a ne0_1b
 have M3:=xQ (((((M2.out).st 4 0 (.int .i64 aA))).st 4 1 (.int .i64 aB)))
 have M4:=xQ (((M3.out).st 4 2 (.slice p1 n c1)))
 have M5:=xQ (M4.out)
 generalize hwz:World.setCell _ _ _=w5
 rw[hwz]at M5
 clear hwz M2 M3 M4
 have M6:=xQ (show Mem w0 w5 [aJ w0.heap.size TI 1 (p1) (n) (c1) (ivs (ys)),aJ w0.heap.size TV 4 (q) (m) (c2) ((vs).flatMap aD),aL w0.heap.size (gA) aO #[aA,aB,.slice (p1) n c1,free,step,aE,aF,aC,aG,.slice (q) m c2],R]from((M5.out).pick [1,3,4,5] (by decide) rfl))
 clear M5
 go_wp2
 go_loopw [8] (fun at_ wr=> ∃(k:Nat),k≤m∧at_= .int .i64 (k:Int)∧(∀u∈vs.take k,u.1<id)∧w5=wr) (fun at_ _=>m-(intOf at_).toNat)
 case atStart=>exact⟨0,Nat.zero_le _,rfl,by simp,rfl⟩
 case round=>
  obtain⟨k,hk,rfl,hlt,rfl⟩:=hrel
  have HLT:=xQ hlt
  clear hlt
  have b9:w5.cell? ⟨gA,9,none⟩=some (.slice q m c2):=(M6.out.blk (i:=2) rfl).cell 9
  have hgl:=(M6.out.lt (i:=2) rfl rfl).2
  by_cases hkm:k<m
  ·obtain⟨gq,hgq,_,_⟩:=M6.out.some (i:=1) rfl (by omega)
   obtain⟨⟨a0,a1,a2,a3⟩,hx⟩: ∃x,vs[k]? =some x:=⟨_,List.getElem?_eq_getElem (by rw[hl.out];exact hkm)⟩
   have ca:w5.cell? ⟨gq,k*4,none⟩=some (.int .i64 a0):=by
    have h1:=(M6.out.own (i:=1) rfl)
    rw[hgq]at h1
    have h2:=h1.cellAt (k*4) (by omega)
    rw[h2]
    exact dQ aD 4 (fun _=>rfl) vs k _ hx 0 (by omega)
   have i1:(0:Int)≤(k:Int):=by omega
   have i2:(k:Int)<(m:Int):=by omega
   by_cases h7:a0<id
   ·have t1:decide (a0<id)=true:=by simp[h7]
    have hlt2:=xQ (show∀u∈vs.take (k+1),u.1<id from by
     intro u hu
     rw[bF hx,List.mem_append,List.mem_singleton]at hu
     rcases hu with hu|rfl
     ·exact HLT.out u hu
     ·exact h7)
    clear hx h7
    subst hgq
    go_wp2
    go_roundw
    case rel=>exact⟨k+1,by omega,by go_num,hlt2.out,by trivial⟩
    case measure=>simp[intOf];omega
   ·have t1:decide (a0<id)=false:=by simp;omega
    have HGE:=xQ (show∀u,vs[k]? =some u→ ¬u.1<id from fun u hu=>by rw[hx]at hu;injection hu with hu;subst hu;exact h7)
    clear hx h7
    subst hgq
    go_upto_region 8 with fail
    clear b9 ca i1 i2 t1 hgl
    have HPV:=xQ (oA (id,aC,0,aC) vs k HLT.out HGE.out)
    have HI:=xQ (fun(w1:World) (vb:Nat) (hx:Ext w5 w1) (hb:Blk w1 vb TV (aD (id,aC,0,aC)).toArray) (hle:w5.heap.size≤vb)=>yO (w0:=w0) (w:=w1) (some ⟨gq,0,none⟩) k vb c2 m vs (id,aC,0,aC) 1 (by omega) hl (xQ (M6.out.adv hx)) (xQ hb) hk (fun g hg=>by have h7:=(M6.out.lt (i:=1) (g:=g) rfl hg).2;omega) (xQ rfl))
    rw[←HPV.out]at HI
    have a7:w5.cell? ⟨gA,7,none⟩=some (.int .i64 aC):=(M6.out.blk (i:=2) rfl).cell 7
    have a9:w5.cell? ⟨gA,9,none⟩=some (.slice (some ⟨gq,0,none⟩) m c2):=(M6.out.blk (i:=2) rfl).cell 9
    have hgl:=(M6.out.lt (i:=2) rfl rfl).2
    clear HLT HGE HPV
    go_wp2_with fail
    go_region_with (first
     |(go_at_call 113;refine(HI.out _ _ (by first|exact(Ext.refl _).alloc _|exact Ext.drew ((Ext.refl _).alloc _)|exact xE) (by first|exact Blk.new _ _ _|exact(Blk.new _ _ _).ext (Ext.drew (Ext.refl _))) (by first|exact Nat.le_refl _|simp)).mono ?_
       rintro e w9 ⟨q9,c9,rfl,hM9⟩
       have M9:=xQ (show Mem w0 w9 [aJ w0.heap.size TI 1 (p1) (n) (c1) (ivs (ys)),aJ w0.heap.size TV 4 (q9) ((m+1)) (c9) ((iZ (id,aC,0,aC) vs).flatMap aD),aL w0.heap.size (gA) aO #[aA,aB,.slice (p1) n c1,free,step,aE,aF,aC,aG,.slice (some ⟨gq,0,none⟩) m c2],R]from hM9)
       clear hM9
       have x7:w9.cell? ⟨gA,7,none⟩=some (.int .i64 aC):=(M9.out.blk (i:=2) rfl).cell 7
       have x9:w9.cell? ⟨gA,9,none⟩=some (.slice (some ⟨gq,0,none⟩) m c2):=(M9.out.blk (i:=2) rfl).cell 9
       have x9f:w9.frozen? ⟨gA,9,none⟩=false:=(M9.out.blk (i:=2) rfl).frozen 9
       have hgl9:=(M9.out.lt (i:=2) rfl rfl).2))
    all_goals (
    clear a7 a9 hgl x7 x9 x9f hgl9 HI M6
    have MX:=xQ (M9.out.st 2 9 (.slice q9 (m+1) c9))
    clear M9
    go_wp2
    exact bodyPost_ret (v:= .tuple #[slides,.bool true]) (by simp[results,Tryz.results67,go_sem, *]) rfl ⟨p1,c1,q9,c9,rfl,MX.out⟩)
  ·obtain rfl:m=k:=by omega
   have HGE:=xQ (show∀u,vs[m]? =some u→ ¬u.1<id from fun u hu=>by rw[List.getElem?_eq_none (by rw[hl.out];exact Nat.le_refl _)]at hu;cases hu)
   go_upto_region 8 with fail
   clear b9 hgl
   have HPV:=xQ (oA (id,aC,0,aC) vs m HLT.out HGE.out)
   have HI:=xQ (fun(w1:World) (vb:Nat) (hx:Ext w5 w1) (hb:Blk w1 vb TV (aD (id,aC,0,aC)).toArray) (hle:w5.heap.size≤vb)=>yO (w0:=w0) (w:=w1) q m vb c2 m vs (id,aC,0,aC) 1 (by omega) hl (xQ (M6.out.adv hx)) (xQ hb) (Nat.le_refl _) (fun g hg=>by have h7:=(M6.out.lt (i:=1) (g:=g) rfl hg).2;omega) (xQ rfl))
   rw[←HPV.out]at HI
   have a7:w5.cell? ⟨gA,7,none⟩=some (.int .i64 aC):=(M6.out.blk (i:=2) rfl).cell 7
   have a9:w5.cell? ⟨gA,9,none⟩=some (.slice q m c2):=(M6.out.blk (i:=2) rfl).cell 9
   have hgl:=(M6.out.lt (i:=2) rfl rfl).2
   clear HLT HGE HPV
   go_wp2_with fail
   go_region_with (first
    |(go_at_call 113;refine(HI.out _ _ (by first|exact(Ext.refl _).alloc _|exact Ext.drew ((Ext.refl _).alloc _)|exact xE) (by first|exact Blk.new _ _ _|exact(Blk.new _ _ _).ext (Ext.drew (Ext.refl _))) (by first|exact Nat.le_refl _|simp)).mono ?_
      rintro e w9 ⟨q9,c9,rfl,hM9⟩
      have M9:=xQ (show Mem w0 w9 [aJ w0.heap.size TI 1 (p1) (n) (c1) (ivs (ys)),aJ w0.heap.size TV 4 (q9) ((m+1)) (c9) ((iZ (id,aC,0,aC) vs).flatMap aD),aL w0.heap.size (gA) aO #[aA,aB,.slice (p1) n c1,free,step,aE,aF,aC,aG,.slice (q) m c2],R]from hM9)
      clear hM9
      have x7:w9.cell? ⟨gA,7,none⟩=some (.int .i64 aC):=(M9.out.blk (i:=2) rfl).cell 7
      have x9:w9.cell? ⟨gA,9,none⟩=some (.slice q m c2):=(M9.out.blk (i:=2) rfl).cell 9
      have x9f:w9.frozen? ⟨gA,9,none⟩=false:=(M9.out.blk (i:=2) rfl).frozen 9
      have hgl9:=(M9.out.lt (i:=2) rfl rfl).2))
   all_goals (
   clear a7 a9 hgl x7 x9 x9f hgl9 HI M6
   have MX:=xQ (M9.out.st 2 9 (.slice q9 (m+1) c9))
   clear M9
   go_wp2
   exact bodyPost_ret (v:= .tuple #[slides,.bool true]) (by simp[results,Tryz.results67,go_sem, *]) rfl ⟨p1,c1,q9,c9,rfl,MX.out⟩)
theorem aE4 (i pd a now f s p c amt D:Int)(w:World)(hD:0≤D)(hD2:D≤693)(hp0:0≤pd)(hp:pd≤9999)
  (HD:Hid (∀w,Calls Tryz.prog 84 #[aR f s p c,bL i pd a,now] w fun e w'=>e= .returned (.int .i64 D)∧Ext w w'))(ha:amt<1):
  Calls Tryz.prog 114 #[aR f s p c,bL i pd a,now,amt] w fun e w'=>e= .returned (.tuple #[bL 0 0 0,amt,.bool false])∧Ext w w':=by
 go_enter Tryz.func114,Tryz.ntmps114
 go_wp2_with fail
 refine(HD.out _).mono ?_
 rintro e w1 ⟨rfl,hx1⟩
 have M1:=xQ ((Mem.b3 w).adv hx1)
 have lt1_0:=M1.out.hi 0
 have lt1_1:=M1.out.hi 1
 have lt1_2:=M1.out.hi 2
 clear hx1 HD
 have t0:decide (D<0)=false:=by simp;omega
 have t1:decide (amt<1)=true:=by simp;omega
 obtain⟨c0,c1,c2⟩:=(M1.out.blk (i:=1) rfl).tri
 obtain⟨d0,df0,d1,df1,d2,df2⟩:=(M1.out.blk (i:=0) rfl).trif
 go_wp2
 clear c0 c1 c2 d0 df0 d1 df1 d2 df2
 have M2:=xQ (((M1.out).put3 (i:=0) rfl (.int .i64 0) (.int .i64 0) (.int .i64 0)))
 generalize hwz:World.setCell _ _ _=wz
 rw[hwz]at M2
 clear hwz M1
 obtain⟨y0,y1,y2⟩:=(M2.out.blk (i:=0) rfl).tri
 exact bodyPost_ret (v:= .tuple #[.agg #[(),(),()],amt,.bool false]) (by simp[results,Tryz.results114,go_sem, *]) rfl ⟨rfl,M2.out.ext⟩
theorem aE5 (i pd a now f s p c amt D:Int)(w:World)(hD:0≤D)(hD2:D≤693)(hp0:0≤pd)(hp:pd≤9999)
  (HD:Hid (∀w,Calls Tryz.prog 84 #[aR f s p c,bL i pd a,now] w fun e w'=>e= .returned (.int .i64 D)∧Ext w w'))(ha:300<amt):
  Calls Tryz.prog 114 #[aR f s p c,bL i pd a,now,amt] w fun e w'=>e= .returned (.tuple #[bL 0 0 0,amt,.bool false])∧Ext w w':=by
 go_enter Tryz.func114,Tryz.ntmps114
 go_wp2_with fail
 refine(HD.out _).mono ?_
 rintro e w1 ⟨rfl,hx1⟩
 have M1:=xQ ((Mem.b3 w).adv hx1)
 have lt1_0:=M1.out.hi 0
 have lt1_1:=M1.out.hi 1
 have lt1_2:=M1.out.hi 2
 clear hx1 HD
 have t0:decide (D<0)=false:=by simp;omega
 have t1:decide (amt<1)=false:=by simp;omega
 have t2:decide (300<amt)=true:=by simp;omega
 obtain⟨c0,c1,c2⟩:=(M1.out.blk (i:=1) rfl).tri
 obtain⟨d0,df0,d1,df1,d2,df2⟩:=(M1.out.blk (i:=0) rfl).trif
 go_wp2
 clear c0 c1 c2 d0 df0 d1 df1 d2 df2
 have M2:=xQ (((M1.out).put3 (i:=0) rfl (.int .i64 0) (.int .i64 0) (.int .i64 0)))
 generalize hwz:World.setCell _ _ _=wz
 rw[hwz]at M2
 clear hwz M1
 obtain⟨y0,y1,y2⟩:=(M2.out.blk (i:=0) rfl).tri
 exact bodyPost_ret (v:= .tuple #[.agg #[(),(),()],amt,.bool false]) (by simp[results,Tryz.results114,go_sem, *]) rfl ⟨rfl,M2.out.ext⟩
theorem yQ (i pd a now f s p c amt:Int)(w:World)(hp0:0≤pd)(hp:pd≤9999)
  (HD:Hid (∀w,Calls Tryz.prog 84 #[aR f s p c,bL i pd a,now] w fun e w'=>e= .returned (.int .i64 0)∧Ext w w'))(ha:1≤amt)(hb:amt≤300):
  Calls Tryz.prog 114 #[aR f s p c,bL i pd a,now,amt] w fun e w'=>e= .returned (.tuple #[bL i pd a,amt,.bool false])∧Ext w w':=by
 go_enter Tryz.func114,Tryz.ntmps114
 go_wp2_with fail
 refine(HD.out _).mono ?_
 rintro e w1 ⟨rfl,hx1⟩
 have M1:=xQ ((Mem.b3 w).adv hx1)
 have lt1_0:=M1.out.hi 0
 have lt1_1:=M1.out.hi 1
 have lt1_2:=M1.out.hi 2
 clear hx1 HD
 have t1:decide (amt<1)=false:=by simp;omega
 have t2:decide (300<amt)=false:=by simp;omega
 obtain⟨c0,c1,c2⟩:=(M1.out.blk (i:=1) rfl).tri
 obtain⟨d0,df0,d1,df1,d2,df2⟩:=(M1.out.blk (i:=0) rfl).trif
 go_wp2
 clear c0 c1 c2 d0 df0 d1 df1 d2 df2
 have M2:=xQ (((M1.out).put3 (i:=0) rfl (.int .i64 i) (.int .i64 pd) (.int .i64 a)))
 generalize hwz:World.setCell _ _ _=wz
 rw[hwz]at M2
 clear hwz M1
 obtain⟨y0,y1,y2⟩:=(M2.out.blk (i:=0) rfl).tri
 exact bodyPost_ret (v:= .tuple #[.agg #[i,pd,a],amt,.bool false]) (by simp[results,Tryz.results114,go_sem, *]) rfl ⟨rfl,M2.out.ext⟩
theorem aBf (i pd a now f s p c amt D:Int)(w:World)(hD:0≤D)(hD2:D≤693)(hp0:0≤pd)(hp:pd≤9999)
  (HD:Hid (∀w,Calls Tryz.prog 84 #[aR f s p c,bL i pd a,now] w fun e w'=>e= .returned (.int .i64 D)∧Ext w w'))(ha:1≤amt)(hb:amt≤300)(hD1:1≤D):
  Calls Tryz.prog 114 #[aR f s p c,bL i pd a,now,amt] w fun e w'=>e= .returned (.tuple #[bL i (pd+min D amt) now,(amt-min D amt:Int),.bool true])∧Ext w w':=by
 go_enter Tryz.func114,Tryz.ntmps114
 go_wp2_with fail
 refine(HD.out _).mono ?_
 rintro e w1 ⟨rfl,hx1⟩
 have M1:=xQ ((Mem.b3 w).adv hx1)
 have lt1_0:=M1.out.hi 0
 have lt1_1:=M1.out.hi 1
 have lt1_2:=M1.out.hi 2
 clear hx1 HD
 have hmn:min amt D=min D amt:=Int.min_comm _ _
 have k1:IntKind.i64.wrap (pd+min D amt)=pd+min D amt:=IntWalk.i64_in _ (by omega)
 have k2:IntKind.i64.wrap (amt-min D amt)=amt-min D amt:=IntWalk.i64_in _ (by omega)
 have hd1:(D==0)=false:=by simp;omega
 have t0:decide (D<0)=false:=by simp;omega
 have t1:decide (amt<1)=false:=by simp;omega
 have t2:decide (300<amt)=false:=by simp;omega
 obtain⟨c0,c1,c2⟩:=(M1.out.blk (i:=1) rfl).tri
 obtain⟨d0,df0,d1,df1,d2,df2⟩:=(M1.out.blk (i:=0) rfl).trif
 go_wp2
 clear c0 c1 c2 d0 df0 d1 df1 d2 df2
 have M2:=xQ (((M1.out).put3 (i:=0) rfl (.int .i64 i) (.int .i64 (pd+min D amt)) (.int .i64 now)))
 generalize hwz:World.setCell _ _ _=wz
 rw[hwz]at M2
 clear hwz M1
 obtain⟨y0,y1,y2⟩:=(M2.out.blk (i:=0) rfl).tri
 exact bodyPost_ret (v:= .tuple #[.agg #[i,(pd+min D amt:Int),now],(amt-min D amt:Int),.bool true]) (by simp[results,Tryz.results114,go_sem, *]) rfl ⟨rfl,M2.out.ext⟩
theorem yR (f s p c i pd a now amt:Int)(w:World)(h:bH f s p c=true)(h2:cP i pd a=true)(h3:a≤now)(h4:now≤9999):
  Calls Tryz.prog 114 #[aR f s p c,bL i pd a,now,amt] w fun e w'=>e= .returned (.tuple #[bL (fN f s p c i pd a now amt).1.1 (fN f s p c i pd a now amt).1.2.1 (fN f s p c i pd a now amt).1.2.2,.int .i64 (fN f s p c i pd a now amt).2.1,.bool (fN f s p c i pd a now amt).2.2])∧Ext w w':=by
 obtain⟨b1,b2,b3,b4,b5,b6⟩:=eS h2
 obtain⟨e1,e2⟩:=jH h h2 h3 h4
 have HD:=xQ (fun w=>vT f s p c i pd a now w h h2 h3 h4)
 unfold fN
 generalize bT f s p c i pd a now=D at*
 by_cases ha:1≤amt∧amt≤300
 ·rw[if_pos ha]
  by_cases hd:D=0
  ·subst hd
   rw[if_pos rfl]
   exact yQ i pd a now f s p c amt w b3 b4 HD ha.1 ha.2
  ·rw[if_neg hd]
   exact aBf i pd a now f s p c amt D w e1 e2 b3 b4 HD ha.1 ha.2 (by omega)
 ·rw[if_neg ha]
  by_cases hb:amt<1
  ·exact aE4 i pd a now f s p c amt D w e1 e2 b3 b4 HD hb
  ·exact aE5 i pd a now f s p c amt D w e1 e2 b3 b4 HD (by omega)
theorem zH (w:World)(gA:Nat)(aA aB free step aE aF aC aG id amt:Int)(p:OA)(n cap:Nat)(q:OA)(m c2:Nat)(hA:Hid (Blk w gA aO #[aA,aB,.slice p n cap,free,step,aE,aF,aC,aG,.slice q m c2]))
  (HX:xC 94 #[.agg #[aA,aB,.slice p n cap,free,step,aE,aF,aC,aG,.slice q m c2],id] w fun w' e w''=>e= .returned (.int .i64 (-1))∧Ext w' w''):
  Calls Tryz.prog 68 #[.pointer (some ⟨gA,0,none⟩),id,amt] w fun e w'=>e= .returned (.tuple #[(-1:Int),.bool false])∧Ext w w':=by
 obtain⟨a0,a1,a2,a3,a4,a5,a6,a7,a8,a9⟩:=hA.out.ten
 have hlt:=hA.out.lt
 go_enter Tryz.func68,Tryz.ntmps68
 go_wp2_with fail
 clear a0 a1 a2 a3 a4 a5 a6 a7 a8 a9
 refine(HX.out _ (Ext.refl _)).mono ?_
 rintro e w1 ⟨rfl,hx⟩
 have hX:=xQ hx
 clear hx
 go_wp2
 exact bodyPost_ret (v:= .tuple #[(-1:Int),.bool false]) (by simp[results,Tryz.results68,go_sem, *]) rfl ⟨rfl,hX.out⟩
theorem zG (w0 w:World)(R:Item)(gA gq:Nat)(aA aB free step aE aF aC aG id amt:Int)(p:OA)(n cap m c2 k:Nat)(xs:List Int)(vs:List aQ)(a0 a1 a2 a3 S1 S2 S3 bk:Int)(okb:Bool)(hk:k<m)(hm:m≤1000)(hbn:0≤aG)(hbn2:aG≤99999)(hok:okb=true→0≤bk∧bk≤amt∧amt≤300)(HV0:Hid (vs[k]? =some (a0,a1,a2,a3)))
  (hM:Hid (Mem w0 w [aJ w0.heap.size TI 1 (p) (n) (cap) (ivs xs),aJ w0.heap.size TV 4 (some ⟨gq,0,none⟩) (m) (c2) ((vs).flatMap aD),aL w0.heap.size (gA) aO #[aA,aB,.slice p n cap,free,step,aE,aF,aC,aG,.slice (some ⟨gq,0,none⟩) m c2],R]))
  (HX:xC 94 #[.agg #[aA,aB,.slice p n cap,free,step,aE,aF,aC,aG,.slice (some ⟨gq,0,none⟩) m c2],id] w fun w' e w''=>e= .returned (.int .i64 (k:Int))∧Ext w' w'')
  (HP:Hid (∀w',Calls Tryz.prog 114 #[aR free step aE aF,bL a1 a2 a3,aC,amt] w' fun e w''=>e= .returned (.tuple #[bL S1 S2 S3,bk,.bool okb])∧Ext w' w'')):
  Calls Tryz.prog 68 #[.pointer (some ⟨gA,0,none⟩),id,amt] w fun e w'=>(e= .returned (.tuple #[(-1:Int),.bool false])∧ ¬(okb=true∧aG+amt-bk≤99999)∧Ext w w')∨
   (okb=true∧aG+amt-bk≤99999∧e= .returned (.tuple #[bk,.bool true])∧Mem w0 w' [aJ w0.heap.size TI 1 (p) (n) (cap) (ivs xs),aJ w0.heap.size TV 4 (some ⟨gq,0,none⟩) (m) (c2) ((vs.set k (a0,S1,S2,S3)).flatMap aD),aL w0.heap.size (gA) aO #[aA,aB,.slice p n cap,free,step,aE,aF,aC,(aG+amt-bk:Int),.slice (some ⟨gq,0,none⟩) m c2],R]):=by
 go_enter Tryz.func68,Tryz.ntmps68
 have lt0_2:gA<w.heap.size:=(hM.out.lt (i:=2) rfl rfl).2
 have hgq:=(hM.out.lt (i:=1) (g:=gq) rfl rfl).2
 have g1:w.cell? ⟨gq,k*4+1,none⟩=some (.int .i64 a1):=((hM.out.own (i:=1) rfl).cellAt (k*4+1) (by omega)).trans (dQ aD 4 (fun _=>rfl) vs k _ HV0.out 1 (by omega))
 have g2:w.cell? ⟨gq,k*4+2,none⟩=some (.int .i64 a2):=((hM.out.own (i:=1) rfl).cellAt (k*4+2) (by omega)).trans (dQ aD 4 (fun _=>rfl) vs k _ HV0.out 2 (by omega))
 have g3:w.cell? ⟨gq,k*4+3,none⟩=some (.int .i64 a3):=((hM.out.own (i:=1) rfl).cellAt (k*4+3) (by omega)).trans (dQ aD 4 (fun _=>rfl) vs k _ HV0.out 3 (by omega))
 obtain⟨z0,z1,z2,z3,z4,z5,z6,z7,z8,z9⟩:=(hM.out.blk (i:=2) rfl).ten
 go_wp2_with fail
 clear z0 z1 z2 z3 z4 z5 z6 z7 z8 z9
 refine(HX.out _ (Ext.refl _)).mono ?_
 rintro e w2 ⟨rfl,hx1⟩
 have hX1:=xQ hx1
 have M2:=xQ (hM.out.adv hx1)
 clear hx1 HX
 have hgA:=(M2.out.lt (i:=2) rfl rfl).2
 have hb2:gq<w2.heap.size:=Nat.lt_of_lt_of_le hgq hX1.out.sz
 have g1':w2.cell? ⟨gq,k*4+1,none⟩=some (.int .i64 a1):=(hX1.out.cells.1 _ _ hgq).trans g1
 have g2':w2.cell? ⟨gq,k*4+2,none⟩=some (.int .i64 a2):=(hX1.out.cells.1 _ _ hgq).trans g2
 have g3':w2.cell? ⟨gq,k*4+3,none⟩=some (.int .i64 a3):=(hX1.out.cells.1 _ _ hgq).trans g3
 clear g1 g2 g3
 obtain⟨ce0,ce1,ce2,ce3,ce4,ce5,ce6,ce7,ce8,ce9⟩:=(M2.out.blk (i:=2) rfl).ten
 have i1:(0:Int)≤(k:Int):=by omega
 have i2:(k:Int)<(m:Int):=by omega
 have t0: ¬((k:Int)<0):=by omega
 have n1: ¬(gA=w2.heap.size):=by omega
 have n2: ¬(w2.heap.size=gA):=by omega
 have n3: ¬(gq=w2.heap.size):=by omega
 have n4: ¬(w2.heap.size=gq):=by omega
 go_upto_region 4 with fail
 go_cut [9,10,11] (fun s11 s12 s13 wx=> ∃a:Nat,s11= .pointer (some ⟨a,0,none⟩)∧s12= .int .i64 bk∧s13= .bool okb∧Ext w2 wx∧w2.heap.size≤a∧Blk wx a TS3 #[S1,S2,S3])
 case first=>
  go_region_held3 (fun w'=>w'.cell? ⟨gA,3,none⟩=some (.int .i64 free)∧w'.cell? ⟨gA,4,none⟩=some (.int .i64 step)∧w'.cell? ⟨gA,5,none⟩=some (.int .i64 aE)∧w'.cell? ⟨gA,6,none⟩=some (.int .i64 aF)∧w'.cell? ⟨gA,7,none⟩=some (.int .i64 aC)∧w'.cell? ⟨gA,9,none⟩=some (.slice (some ⟨gq,0,none⟩) m c2)∧w'.cell? ⟨gq,k*4+1,none⟩=some (.int .i64 a1)∧w'.cell? ⟨gq,k*4+2,none⟩=some (.int .i64 a2)∧w'.cell? ⟨gq,k*4+3,none⟩=some (.int .i64 a3))
   (first|(refine⟨?_,?_,?_,?_,?_,?_,?_,?_,?_⟩<;>assumption)|go_keep)
   ((go_at_call 114
     refine(HP.out _).mono ?_
     rintro e w5 ⟨rfl,hx5⟩
     have hy5:Ext w2 w5:=xE
     have gg3:w5.cell? ⟨gA,3,none⟩=some (.int .i64 free):=((M2.out.blk (i:=2) rfl).ext hy5).cell 3
     have gg4:w5.cell? ⟨gA,4,none⟩=some (.int .i64 step):=((M2.out.blk (i:=2) rfl).ext hy5).cell 4
     have gg5:w5.cell? ⟨gA,5,none⟩=some (.int .i64 aE):=((M2.out.blk (i:=2) rfl).ext hy5).cell 5
     have gg6:w5.cell? ⟨gA,6,none⟩=some (.int .i64 aF):=((M2.out.blk (i:=2) rfl).ext hy5).cell 6
     have gg7:w5.cell? ⟨gA,7,none⟩=some (.int .i64 aC):=((M2.out.blk (i:=2) rfl).ext hy5).cell 7
     have gg9:w5.cell? ⟨gA,9,none⟩=some (.slice (some ⟨gq,0,none⟩) m c2):=((M2.out.blk (i:=2) rfl).ext hy5).cell 9
     have gv1:w5.cell? ⟨gq,k*4+1,none⟩=some (.int .i64 a1):=(hy5.cells.1 _ _ hb2).trans g1'
     have gv2:w5.cell? ⟨gq,k*4+2,none⟩=some (.int .i64 a2):=(hy5.cells.1 _ _ hb2).trans g2'
     have gv3:w5.cell? ⟨gq,k*4+3,none⟩=some (.int .i64 a3):=(hy5.cells.1 _ _ hb2).trans g3'
     first
      |(have hz5:Ext (w2.alloc (.cells #[(),(),()] TS3)) w5:=hx5
        have BB:=(Blk.new w2 TS3 #[(),(),()]).ext hz5
        have zc0:w5.cell? ⟨w2.heap.size,0,none⟩=some (.int .i64 0):=BB.cell 0
        have zf0:w5.frozen? ⟨w2.heap.size,0,none⟩=false:=BB.frozen 0
        have zc1:w5.cell? ⟨w2.heap.size,1,none⟩=some (.int .i64 0):=BB.cell 1
        have zf1:w5.frozen? ⟨w2.heap.size,1,none⟩=false:=BB.frozen 1
        have zc2:w5.cell? ⟨w2.heap.size,2,none⟩=some (.int .i64 0):=BB.cell 2
        have zf2:w5.frozen? ⟨w2.heap.size,2,none⟩=false:=BB.frozen 2)
      |(have hz5:Ext (w2.alloc (.cells #[(),(),()] TS3)) w5:=hx5.of_drew
        have BB:=(Blk.new w2 TS3 #[(),(),()]).ext hz5
        have zc0:w5.cell? ⟨w2.heap.size,0,none⟩=some (.int .i64 0):=BB.cell 0
        have zf0:w5.frozen? ⟨w2.heap.size,0,none⟩=false:=BB.frozen 0
        have zc1:w5.cell? ⟨w2.heap.size,1,none⟩=some (.int .i64 0):=BB.cell 1
        have zf1:w5.frozen? ⟨w2.heap.size,1,none⟩=false:=BB.frozen 1
        have zc2:w5.cell? ⟨w2.heap.size,2,none⟩=some (.int .i64 0):=BB.cell 2
        have zf2:w5.frozen? ⟨w2.heap.size,2,none⟩=false:=BB.frozen 2)
      |skip))
  ·go_wp2_with fail
   go_meet
   exact⟨w5.heap.size,rfl,rfl,rfl,xE,by have:=hy5.sz;omega,Blk.new _ _ _⟩
  ·have hR:ExtR w2.heap.size w5 _:=(((ExtR.refl w2.heap.size w5).setCell (p:=⟨w2.heap.size,0,none⟩) (.inl rfl) (.int .i64 S1)).setCell (p:=⟨w2.heap.size,1,none⟩) (.inl rfl) (.int .i64 S2)).setCell (p:=⟨w2.heap.size,2,none⟩) (.inl rfl) (.int .i64 S3)
   have hY:=((BB.set 0 (.int .i64 S1)).set 1 (.int .i64 S2)).set 2 (.int .i64 S3)
   simp only[List.setIfInBounds_toArray,List.set_cons_zero,List.set_cons_succ]at hY
   go_wp2_with fail
   go_meet
   exact⟨w2.heap.size,rfl,rfl,rfl,ExtR.new hy5 hR (Nat.le_refl _),Nat.le_refl _,hY⟩
 case rest=>
  clear ce0 ce1 ce2 ce3 ce4 ce5 ce6 ce7 ce8 ce9 g1' g2' g3' HP n1 n2 n3 n4
  obtain⟨a,rfl,rfl,rfl,hE5,ha,hBa⟩:=hcut
  have hXC:=xQ (hX1.out.trans hE5)
  have M3:=xQ (M2.out.blkOf hE5 hBa ha)
  clear M2
  have lt3_0:=M3.out.hi 0
  have lt3_3:=M3.out.hi 3
  clear hE5 ha hBa
  cases okb with
  |false=>
   have hno:Hid (¬(false=true∧aG+amt-bk≤99999)):=by show¬_;simp
   go_wp2
   exact bodyPost_ret (v:= .tuple #[(-1:Int),.bool false]) (by simp[results,Tryz.results68,go_sem, *]) rfl (by
    have hno2:=hno.out
    first|exact .inl ⟨rfl,hno2,hXC.out⟩|exact .inl ⟨rfl,by omega,hXC.out⟩|exact .inl ⟨by omega,hXC.out⟩|exact .inl ⟨rfl,hXC.out⟩|exact .inl hXC.out|exact hXC.out|(simp at hno2;first|exact .inl ⟨rfl,hno2,hXC.out⟩|exact .inl ⟨hno2,hXC.out⟩|exact .inl ⟨rfl,by omega,hXC.out⟩|exact .inl ⟨by omega,hXC.out⟩))
  |true=>
   obtain⟨o1,o2,o3⟩:=hok rfl
   have k1:IntKind.i64.wrap (aG+amt)=aG+amt:=IntWalk.i64_in _ (by omega)
   have k2:IntKind.i64.wrap (aG+amt-bk)=aG+amt-bk:=IntWalk.i64_in _ (by omega)
   have k3:IntKind.i64.wrap (amt-bk)=amt-bk:=IntWalk.i64_in _ (by omega)
   have k4:IntKind.i64.wrap (aG+(amt-bk))=aG+amt-bk:=by rw[IntWalk.i64_in _ (by omega)];omega
   have h8:wc.cell? ⟨gA,8,none⟩=some (.int .i64 aG):=(M3.out.blk (i:=3) rfl).cell 8
   by_cases hq:aG+amt-bk≤99999
   ·have hd:decide (99999<aG+amt-bk)=false:=by simp;omega
    have hqq:=xQ hq
    clear hq
    go_upto_region 7 with fail
    clear h8
    have d9:wc.cell? ⟨gA,9,none⟩=some (.slice (some ⟨gq,0,none⟩) m c2):=(M3.out.blk (i:=3) rfl).cell 9
    obtain⟨sa0,sa1,sa2⟩:=(M3.out.blk (i:=0) rfl).tri
    have y1:wc.cell? ⟨gq,k*4+1,none⟩=some (.int .i64 a1):=((M3.out.own (i:=2) rfl).cellAt (k*4+1) (by omega)).trans (dQ aD 4 (fun _=>rfl) vs k _ HV0.out 1 (by omega))
    have z1:wc.frozen? ⟨gq,k*4+1,none⟩=false:=(M3.out.own (i:=2) rfl).frozenAt (k*4+1)
    have y2:wc.cell? ⟨gq,k*4+2,none⟩=some (.int .i64 a2):=((M3.out.own (i:=2) rfl).cellAt (k*4+2) (by omega)).trans (dQ aD 4 (fun _=>rfl) vs k _ HV0.out 2 (by omega))
    have z2:wc.frozen? ⟨gq,k*4+2,none⟩=false:=(M3.out.own (i:=2) rfl).frozenAt (k*4+2)
    have y3:wc.cell? ⟨gq,k*4+3,none⟩=some (.int .i64 a3):=((M3.out.own (i:=2) rfl).cellAt (k*4+3) (by omega)).trans (dQ aD 4 (fun _=>rfl) vs k _ HV0.out 3 (by omega))
    have z3:wc.frozen? ⟨gq,k*4+3,none⟩=false:=(M3.out.own (i:=2) rfl).frozenAt (k*4+3)
    have ne0_1a: ¬(a=gA):=M3.out.ne (i:=0) (j:=3) (by omega) rfl rfl rfl rfl
    have ne0_1b: ¬(gA=a):=fun h=>ne0_1a h.symm
    have ne0_2a: ¬(gq=gA):=M3.out.ne (i:=2) (j:=3) (by omega) rfl rfl rfl rfl
    have ne0_2b: ¬(gA=gq):=fun h=>ne0_2a h.symm
    have ne1_2a: ¬(a=gq):=M3.out.ne (i:=0) (j:=2) (by omega) rfl rfl rfl rfl
    have ne1_2b: ¬(gq=a):=fun h=>ne1_2a h.symm
    go_region
    clear d9 sa0 sa1 sa2 y1 z1 y2 z2 y3 z3 ne0_1a ne0_1b ne0_2a ne0_2b ne1_2a ne1_2b
    have hfl:Hid ((((vs.flatMap aD).set (k*4+1) (.int .i64 S1)).set (k*4+2) (.int .i64 S2)).set (k*4+3) (.int .i64 S3)=(vs.set k (a0,S1,S2,S3)).flatMap aD):=tP HV0.out S1 S2 S3
    have MX:=xQ (show Mem w0 (((wc.setCell ⟨gq,k*4+1,none⟩ (.int .i64 S1)).setCell ⟨gq,k*4+2,none⟩ (.int .i64 S2)).setCell ⟨gq,k*4+3,none⟩ (.int .i64 S3)).drew [aL w0.heap.size (a) TS3 #[S1,S2,S3],aJ w0.heap.size TI 1 (p) (n) (cap) (ivs xs),aJ w0.heap.size TV 4 (some ⟨gq,0,none⟩) (m) (c2) ((vs.set k (a0,S1,S2,S3)).flatMap aD),aL w0.heap.size (gA) aO #[aA,aB,.slice p n cap,free,step,aE,aF,aC,aG,.slice (some ⟨gq,0,none⟩) m c2],R]from by rw[←hfl.out];exact(((M3.out.ostore (i:=2) rfl (k*4+1) (.int .i64 S1)).ostore (i:=2) rfl (k*4+2) (.int .i64 S2)).ostore (i:=2) rfl (k*4+3) (.int .i64 S3)).adv (Ext.drew (Ext.refl _)))
    generalize hw7:World.drew _=w7
    rw[hw7]at MX
    clear hw7 M3 lt3_0 lt3_3
    have lt9_0:a<w7.heap.size:=(MX.out.lt (i:=0) rfl rfl).2
    have lt9_3:gA<w7.heap.size:=(MX.out.lt (i:=3) rfl rfl).2
    have d8:w7.cell? ⟨gA,8,none⟩=some (.int .i64 aG):=(MX.out.blk (i:=3) rfl).cell 8
    have df8:w7.frozen? ⟨gA,8,none⟩=false:=(MX.out.blk (i:=3) rfl).frozen 8
    go_wp2
    clear d8 df8
    exact bodyPost_ret (v:= .tuple #[bk,.bool true]) (by simp[results,Tryz.results68,go_sem, *]) rfl (by have hfin:Hid (Mem w0 _ [aJ w0.heap.size TI 1 (p) (n) (cap) (ivs xs),aJ w0.heap.size TV 4 (some ⟨gq,0,none⟩) (m) (c2) ((vs.set k (a0,S1,S2,S3)).flatMap aD),aL w0.heap.size (gA) aO #[aA,aB,.slice p n cap,free,step,aE,aF,aC,(aG+amt-bk:Int),.slice (some ⟨gq,0,none⟩) m c2],R]):=((((MX.out).store (i:=3) rfl 8 (.int .i64 (aG+amt-bk)))).pick [1,2,3,4] (by decide) rfl);first|exact .inr ⟨rfl,hqq.out,rfl,hfin.out⟩|exact .inr ⟨hqq.out,rfl,hfin.out⟩|exact .inr ⟨hqq.out,hfin.out⟩)
   ·have hno:Hid (¬(true=true∧aG+amt-bk≤99999)):=by show¬_;simp[hq]
    have hd:decide (99999<aG+amt-bk)=true:=by simp;omega
    go_wp2
    exact bodyPost_ret (v:= .tuple #[(-1:Int),.bool false]) (by simp[results,Tryz.results68,go_sem, *]) rfl (by
     have hno2:=hno.out
     first|exact .inl ⟨rfl,hno2,hXC.out⟩|exact .inl ⟨rfl,by omega,hXC.out⟩|exact .inl ⟨by omega,hXC.out⟩|exact .inl ⟨rfl,hXC.out⟩|exact .inl hXC.out|exact hXC.out|(simp at hno2;first|exact .inl ⟨rfl,hno2,hXC.out⟩|exact .inl ⟨hno2,hXC.out⟩|exact .inl ⟨rfl,by omega,hXC.out⟩|exact .inl ⟨by omega,hXC.out⟩))
end Go.Proofs.YtgnkoffndhmhpaaGreatDoor
