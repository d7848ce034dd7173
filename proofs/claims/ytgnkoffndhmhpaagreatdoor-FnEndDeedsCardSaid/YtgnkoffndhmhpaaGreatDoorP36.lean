/-
  Texts of this proof, packed (@packed).
-/
import Derived.Test.YtgnkoffndhmhpaaGreatDoorP5
import Derived.Test.YtgnkoffndhmhpaaGreatDoorP18
import Derived.Test.YtgnkoffndhmhpaaGreatDoorP21
import Derived.Test.YtgnkoffndhmhpaaGreatDoorP31
import Derived.Test.YtgnkoffndhmhpaaGreatDoorP33
import Derived.Test.YtgnkoffndhmhpaaGreatDoorP35
namespace Go.Proofs.YtgnkoffndhmhpaaGreatDoor
open Go.RowKit
set_option linter.unusedVariables false
set_option linter.unusedSimpArgs false
set_option maxHeartbeats 8000000
set_option maxRecDepth 100000
theorem aLx (aA aB:Int)(c:Nat)(id:Int)(p:OA)(n cap:Nat)(xs:List Int)(w:World)(hS:Sl w p n cap 1 (ivs xs))(hok:aN aA aB xs=true)(hc:xs[c]? =some id) (h0:id≠0) (hE:BitTab w):
  Calls Tryz.prog 179 #[aH aA aB p n cap,(c:Int)] w (iZ (dI aA xs c) w):=by
 have hl:=hS.ilen
 subst hl
 obtain⟨g1,g2,g3,g4,g5,g6,g7,g8,g9⟩:=bM hok
 have b:(2:Nat) ^ xs.length≤4096:=Nat.le_trans (Nat.pow_le_pow_right (by omega) g6) (by decide)
 have g:=Nat.two_pow_pos xs.length
 have j:=(List.getElem?_eq_some_iff.1 hc).1
 have hN:xs.length*2 ^ xs.length≤12*4096:=Nat.mul_le_mul g6 b
 have hC:c*2 ^ xs.length≤12*4096:=Nat.mul_le_mul (by omega) b
 have h:xs.length≤xs.length*2 ^ xs.length:=Nat.le_mul_of_pos_right _ g
 obtain⟨p1,p2,p3⟩:=qW hok hc h0
 have hD:=kV (aA:=aA) (many:=(bI xs).length) g6
 have f:=(qJ g5 g6 hD).bd
 obtain⟨pb,po,rfl,hb,i⟩:=hS.rd (by omega)
 have a: ∀(k:Nat) (B:List Int) (Q:List Nat),aJu aA xs c k B Q→SOk (xs.length*2 ^ xs.length) B Q:=fun k B Q hr=>(hr.ok p1 f).1
 refine aIy aA aB pb po xs.length cap (xs.length*2 ^ xs.length) (2 ^ xs.length) c (c*2 ^ xs.length) (eM xs.length (st0 xs c)) xs (cR xs) (fun u=>mV aA xs.length (2 ^ xs.length) u) w g5 g6 rfl hb hE (by omega) h hC rfl rfl rfl rfl p1 (by simp) ?_ ?_ (fun k x hx=> ?_) rfl (fun k x hx=> ?_) (fun k hk w' hx=> ?_) (fun u v hu hv=>f u v hu hv) (fun k B Q hr=>a k B Q hr) (fun k u B Q hr hu hz=> ?_) (fun k B Q hr hk=>aCu hok g5 g6 hc h0 hr hk)
 ·have e:(c:Int)*((2 ^ xs.length:Nat):Int)=((c*2 ^ xs.length:Nat):Int):=by push_cast;rfl
  rw[e];exact IntWalk.i64_in _ (by omega)
 ·have e:(xs.length:Int)*((2 ^ xs.length:Nat):Int)=((xs.length*2 ^ xs.length:Nat):Int):=by push_cast;rfl
  rw[e];exact IntWalk.i64_in _ (by omega)
 ·have hk:=(List.getElem?_eq_some_iff.1 hx).1
  rw[fH hk,List.getD_eq_getElem?_getD,hx];rfl
 ·have hk:=(List.getElem?_eq_some_iff.1 hx).1
  rw[i k (by omega)]
  simp only[ivs,List.getElem?_map,hx,Option.map_some]
 ·have:=aDw aA aB k _ xs.length cap xs w' (hS.ext hx) hok (by omega) (by omega)
  rwa[kL]at this
 ·obtain⟨d,hd⟩:=aAf hok g5 g6 hc h0 hr hu hz
  exact⟨d,_,_,hd.d60,hd.trail g6 (a k B Q hr).len,rfl,hd.last.symm,hd.way⟩
theorem aGl (aA aB id:Int)(p:OA)(n cap:Nat)(w:World)
  (HF:xC 178 #[aH aA aB p n cap,id] w fun w' e w''=>e= .returned (.int .i64 (-1))∧Ext w' w''):
  Calls Tryz.prog 151 #[aH aA aB p n cap,id] w (iZ none w):=by
 go_enter Tryz.func151,Tryz.ntmps151
 go_wp2_with fail
 refine(HF _ ((Mem.start w).bn TH3 #[aA,aB,.slice p n cap] (w.heap.size)).ext).mono ?_
 rintro e w1 ⟨rfl,a⟩
 have M1:=(((Mem.start w).bn TH3 #[aA,aB,.slice p n cap] (w.heap.size)).adv a)
 have b:=M1.hi 0
 clear a
 have HX:=xQ (M1.ext)
 go_wp2
 exact bodyPost_ret (v:= .tuple #[((),()),.bool false]) (by simp[results,Tryz.results151,go_sem, *]) rfl ⟨_,rfl,HX.out⟩
theorem aDx (aA aB id:Int)(c:Nat)(p:OA)(n cap:Nat)(r:Option (List Sl2))(w:World)
  (HF:xC 178 #[aH aA aB p n cap,id] w fun w' e w''=>e= .returned (.int .i64 (c:Int))∧Ext w' w'')
  (HB:Hid (∀w',Ext w w'→Calls Tryz.prog 179 #[aH aA aB p n cap,(c:Int)] w' (iZ r w'))):
  Calls Tryz.prog 151 #[aH aA aB p n cap,id] w (iZ r w):=by
 have t0: ¬((c:Int)<0):=by omega
 go_enter Tryz.func151,Tryz.ntmps151
 go_wp2_with fail
 refine(HF _ ((Mem.start w).bn TH3 #[aA,aB,.slice p n cap] (w.heap.size)).ext).mono ?_
 rintro e w1 ⟨rfl,d⟩
 have M1:=(((Mem.start w).bn TH3 #[aA,aB,.slice p n cap] (w.heap.size)).adv d)
 have f:=M1.hi 0
 clear d
 obtain⟨h0,h1,h2⟩:=(M1.bk 0).tri
 go_wp2_with fail
 clear h0 h1 h2
 have HX:=xQ (M1.ext)
 refine(HB _ HX.out).mono ?_
 intro e w9 hr
 have b:=xQ hr
 clear hr HB
 cases r with
 |none=>
  obtain⟨v,rfl,a⟩:=b.out
  go_wp2
  exact bodyPost_ret (v:= .tuple #[v,.bool false]) (by simp[results,Tryz.results151,go_sem, *]) rfl ⟨_,rfl,HX.out.trans a⟩
 |some l=>
  obtain⟨q9,c9,rfl,o9,a⟩:=b.out
  go_wp2
  exact bodyPost_ret (v:= .tuple #[.slice q9 l.length c9,.bool true]) (by simp[results,Tryz.results151,go_sem, *]) rfl ⟨q9,c9,rfl,bH o9 HX.out.sz,HX.out.trans a⟩
theorem uJ (aA aB id:Int)(p:OA)(n cap:Nat)(xs:List Int)(w:World)(hlen:Hid (xs.length=n))
  (HV:xB 80 #[aH aA aB p n cap] w true)
  (HB:xC 151 #[aH aA aB p n cap,id] w fun w' e w''=> ∃v,e= .returned (.tuple #[v,.bool false])∧Ext w' w'')
  (HL:xC 105 #[aH aA aB p n cap] w fun w' e w''=> ∃q c,e= .returned (aH aA aB q n c)∧w''.ownsRow w'.heap.size TI 1 (.slice q n c) n (ivs xs)∧Ext w' w''):
  Calls Tryz.prog 116 #[aH aA aB p n cap,id] w (cO aA aB xs (-1) w):=by
 go_enter Tryz.func116,Tryz.ntmps116
 go_wp2_with fail
 refine(HV _ (((Mem.start w).bn TH3 #[aA,aB,.slice p n cap] (w.heap.size)).bn TH3 #[(),(),((),())] (w.heap.size+1)).ext).mono ?_
 rintro e w1 ⟨rfl,j⟩
 have M1:=((((Mem.start w).bn TH3 #[aA,aB,.slice p n cap] (w.heap.size)).bn TH3 #[(),(),((),())] (w.heap.size+1)).adv j)
 have a:=M1.hi 0
 have f:=M1.hi 1
 clear j
 obtain⟨h0,h1,h2⟩:=(M1.bk 1).tri
 go_wp2_with fail
 clear h0 h1 h2
 refine(HB _ M1.ext).mono ?_
 rintro e w2 ⟨v,rfl,g⟩
 have M2:=(M1.adv g)
 clear M1 a f g
 have b:=M2.hi 0
 have d:=M2.hi 1
 obtain⟨h0,h1,h2⟩:=(M2.bk 1).tri
 go_wp2_with fail
 clear h0 h1 h2
 refine(HL _ M2.ext).mono ?_
 rintro e w3 ⟨q0,c0,rfl,k,h⟩
 have M3:=(M2.call h k)
 clear M2 b d h k
 have o:=M3.hi 1
 have m:=M3.hi 2
 obtain⟨z0,r,z1,l,z2,s⟩:=(M3.bk 1).trif
 go_wp2
 have M4:=((M3.st 1 0 (.int .i64 aA)).st 1 1 (.int .i64 aB))
 have M5:=(M4.st 1 2 (.slice q0 n c0))
 clear z0 r z1 l z2 s
 have M6:=(show Mem w (((w3.setCell ⟨w.heap.size+1,0,none⟩ (.int .i64 aA)).setCell ⟨w.heap.size+1,1,none⟩ (.int .i64 aB)).setCell ⟨w.heap.size+1,2,none⟩ (.slice q0 n c0)) [aJ w.heap.size TI 1 (q0) (n) (c0) (ivs xs),aI w.heap.size (w.heap.size+1) TH3 #[aA,aB,.slice q0 n c0],aI w.heap.size (w.heap.size) TH3 #[aA,aB,.slice p n cap]]from M5)
 generalize i:World.setCell _ _ _=wz
 rw[i]at M6
 clear i M3 M4 M5
 obtain⟨y0,y1,y2⟩:=(M6.bk 1).tri
 exact bodyPost_ret (v:= .tuple #[.agg #[aA,aB,.slice q0 n c0],(-1:Int)]) (by simp[results,Tryz.results116,go_sem, *]) rfl (eH hlen.out (M6.ow 0) M6.ext)
theorem aB7 (aA aB id:Int)(p:OA)(n cap K:Nat)(y0:Int)(ys:List Int)(sl:List Sl2)(w:World)(hn0:0<n)(hlen:Hid (ys.length=n))(HY0:Hid (ys[0]? =some y0))
  (HV:xB 80 #[aH aA aB p n cap] w true)
  (HB:xC 151 #[aH aA aB p n cap,id] w fun w' e w''=> ∃q c,e= .returned (.tuple #[.slice q K c,.bool true])∧w''.ownsRow w'.heap.size TSL 2 (.slice q K c) K (sl.flatMap aK)∧Ext w' w'')
  (HR:Hid (∀w' q c,Ext w w'→Sl w' q K c 2 (sl.flatMap aK)→Calls Tryz.prog 147 #[aH aA aB p n cap,.slice q K c] w' fun e w''=> ∃q c,e= .returned (aH aA aB q n c)∧w''.ownsRow w'.heap.size TI 1 (.slice q n c) n (ivs ys)∧Ext w' w'')):
  Calls Tryz.prog 116 #[aH aA aB p n cap,id] w (cO aA aB (ys.set 0 0) (K:Int) w):=by
 go_enter Tryz.func116,Tryz.ntmps116
 go_wp2_with fail
 refine(HV _ (((Mem.start w).bn TH3 #[aA,aB,.slice p n cap] (w.heap.size)).bn TH3 #[(),(),((),())] (w.heap.size+1)).ext).mono ?_
 rintro e w1 ⟨rfl,ag⟩
 have M1:=((((Mem.start w).bn TH3 #[aA,aB,.slice p n cap] (w.heap.size)).bn TH3 #[(),(),((),())] (w.heap.size+1)).adv ag)
 have j:=M1.hi 0
 have t:=M1.hi 1
 clear ag
 obtain⟨h0,h1,h2⟩:=(M1.bk 1).tri
 go_wp2_with fail
 clear h0 h1 h2
 refine(HB _ M1.ext).mono ?_
 rintro e w2 ⟨qs,cs,rfl,ab,z⟩
 have M2:=(M1.call z ab)
 clear M1 j t z ab
 have m:=M2.hi 1
 have x:=M2.hi 2
 obtain⟨h0,h1,h2⟩:=(M2.bk 2).tri
 go_wp2_with fail
 clear h0 h1 h2
 refine(HR _ qs cs M2.ext (M2.sq 0)).mono ?_
 rintro e w3 ⟨q1,c1,rfl,ah,ae⟩
 have M3:=(M2.call ae ah)
 clear M2 m x ae ah
 have s:=M3.hi 2
 have r:=M3.hi 3
 obtain⟨g,rfl,an,aq⟩:=M3.so 0
 clear an aq
 go_upto_region 7 with fail
 obtain⟨gV,k⟩: ∃gV,gV=w3.heap.size:=⟨_,rfl⟩
 rw[←k]
 have M4:=(M3.blkNew TH3 #[aA,aB,.slice (some ⟨g,0,none⟩) n c1] gV k.symm)
 generalize World.alloc _ _=w7 at M4⊢
 clear M3 s r k
 have o:=M4.hi 0
 have u:=M4.hi 3
 have l:=M4.hi 4
 obtain⟨v0,v1,v2⟩:=(M4.bk 0).tri
 have gi:w7.cell? ⟨g,0,none⟩=some (.int .i64 y0):=by have:=(M4.ow 1).cellAt 0 (by omega);rw[this];simpa[ivs]using HY0.out
 have ai:w7.frozen? ⟨g,0,none⟩=false:=(M4.ow 1).frozenAt 0
 obtain⟨a,d⟩:=M4.nq 0 1
 go_upto_region 8 with fail
 clear v0 v1 v2 a d gi ai
 have MX:=(show Mem w (w7.setCell ⟨g,0,none⟩ (.int .i64 0)) [aI w.heap.size (gV) TH3 #[aA,aB,.slice (some ⟨g,0,none⟩) n c1],aJ w.heap.size TI 1 (some ⟨g,0,none⟩) (n) (c1) (ivs (ys.set 0 0)),aJ w.heap.size TSL 2 (qs) (K) (cs) (sl.flatMap aK),aI w.heap.size (w.heap.size+1) TH3 #[(),(),((),())],aI w.heap.size (w.heap.size) TH3 #[aA,aB,.slice p n cap]]from by rw[←dV];exact M4.ostore (i:=1) rfl 0 (.int .i64 0))
 generalize ad:World.setCell _ _ _=w8
 rw[ad]at MX
 clear ad M4 o u l
 have ao:gV<w8.heap.size:=(MX.hi 0)
 have ak:w.heap.size+1<w8.heap.size:=(MX.hi 3)
 have al:w.heap.size<w8.heap.size:=(MX.hi 4)
 obtain⟨v0,v1,v2⟩:=(MX.bk 0).tri
 obtain⟨z0,ap,z1,aj,z2,am⟩:=(MX.bk 3).trif
 obtain⟨f,h⟩:=MX.nq 0 3
 go_wp2
 have y:=((MX.st 3 0 (.int .i64 aA)).st 3 1 (.int .i64 aB))
 have aa:=(y.st 3 2 (.slice (some ⟨g,0,none⟩) n c1))
 clear v0 v1 v2 z0 ap z1 aj z2 am f h
 have b:=(show Mem w (((w8.setCell ⟨w.heap.size+1,0,none⟩ (.int .i64 aA)).setCell ⟨w.heap.size+1,1,none⟩ (.int .i64 aB)).setCell ⟨w.heap.size+1,2,none⟩ (.slice (some ⟨g,0,none⟩) n c1)) [aI w.heap.size (gV) TH3 #[aA,aB,.slice (some ⟨g,0,none⟩) n c1],aJ w.heap.size TI 1 (some ⟨g,0,none⟩) (n) (c1) (ivs (ys.set 0 0)),aJ w.heap.size TSL 2 (qs) (K) (cs) (sl.flatMap aK),aI w.heap.size (w.heap.size+1) TH3 #[aA,aB,.slice (some ⟨g,0,none⟩) n c1],aI w.heap.size (w.heap.size) TH3 #[aA,aB,.slice p n cap]]from aa)
 generalize af:World.setCell _ _ _=wz
 rw[af]at b
 clear af MX y aa
 obtain⟨y0,y1,y2⟩:=(b.bk 3).tri
 exact bodyPost_ret (v:= .tuple #[.agg #[aA,aB,.slice (some ⟨g,0,none⟩) n c1],(K:Int)]) (by simp[results,Tryz.results116,go_sem, *]) rfl (eH (by rw[List.length_set];exact hlen.out) (b.ow 1) b.ext)
theorem aGh (aA aB id:Int)(p:OA)(n cap:Nat)(xs:List Int)(w:World)(hS:Sl w p n cap 1 (ivs xs))(hok:aN aA aB xs=true)(hE:BitTab w):
  Calls Tryz.prog 116 #[aH aA aB p n cap,id] w (cO aA aB (bO aA aB xs id).1 (bO aA aB xs id).2 w):=by
 have hl:=hS.ilen
 subst hl
 obtain⟨g1,g2,g3,g4,g5,g6,g7⟩:=bX (cM hok)
 have HV: ∀w',Ext w w'→Calls Tryz.prog 80 #[aH aA aB p xs.length cap] w' fun e w''=>e= .returned (.bool true)∧Ext w' w'':=fun w' hy=>by
  have:=fI aA aB p xs.length cap xs w' (hS.ext hy)
  rwa[hok]at this
 have HL:=fun(w':World) (hy:Ext w w')=>kR aA aB p xs.length cap xs w' (by omega) (hS.ext hy)
 by_cases hno:id<1∨id∉xs
 ·have e:bO aA aB xs id=(xs,-1):=by unfold bO kG;rw[if_pos hno]
  rw[e]
  refine uJ aA aB id p xs.length cap xs w rfl HV (fun w' hy=> ?_) HL
  refine aGl aA aB id p xs.length cap w' (fun w2 hy2=> ?_)
  have:=wT aA aB id p xs.length cap xs w2 (hS.ext (hy.trans hy2))
  rwa[aEs hno]at this
 ·have b:1≤id:=by omega
  have hm:id∈xs:=by
   by_cases hm:id∈xs
   ·exact hm
   ·exact absurd (.inr hm) hno
  obtain⟨c,hc,a⟩:=qF hm
  have hf:gY aA aB xs id=(c:Int):=by unfold gY;rw[if_pos ⟨hok,b⟩];exact a
  have HB: ∀w',Ext w w'→Calls Tryz.prog 151 #[aH aA aB p xs.length cap,id] w' (iZ (dI aA xs c) w'):=fun w' hy=>by
   refine aDx aA aB id c p xs.length cap _ w' (fun w2 hy2=> ?_) (fun w2 hy2=>aLx aA aB c id p xs.length cap xs w2 (hS.ext (hy.trans hy2)) hok hc (by omega) (hE.ext (hy.trans hy2)))
   have:=wT aA aB id p xs.length cap xs w2 (hS.ext (hy.trans hy2))
   rwa[hf]at this
  have d:(nC xs id).toNat=c:=by rw[a];simp
  cases hb:dI aA xs c with
  |none=>
   have e:bO aA aB xs id=(xs,-1):=by unfold bO kG;rw[if_neg hno,d,hb];rfl
   rw[e]
   rw[hb]at HB
   exact uJ aA aB id p xs.length cap xs w rfl HV HB HL
  |some l=>
   obtain⟨b1,ys,b2,b3,b4,b5⟩:=(lJ hok hc (by omega)).2 l hb
   have e:bO aA aB xs id=(ys.set 0 0,(l.length:Int)):=by unfold bO kG;rw[if_neg hno,d,hb];simp[b2]
   rw[e]
   rw[hb]at HB
   have f:eE aA aB xs l=ys:=pO _ _ _ b2
   refine aB7 aA aB id p xs.length cap l.length id ys l w (by omega) b4 b5 HV HB (fun w' q c' hy hL=> ?_)
   have:=wU aA aB p xs.length cap xs q l.length c' l w' rfl (hS.ext hy) hok hL
   rw[f]at this
   unfold cZ at this
   rw[b4]at this
   exact this
theorem aGk (w:World)(gA:Nat)(aA aB free step aD aG aC aF id slides:Int)(p:OA)(n cap:Nat)(q:OA)(m c2:Nat)(ys:List Int)(h0:slides<0)(hA:Hid (Blk w gA aL #[aA,aB,.slice (p) n cap,free,step,aD,aG,aC,aF,.slice (q) m c2]))
  (HS:xC 112 #[aH aA aB p n cap,id] w fun w' e w''=> ∃q c,e= .returned (.tuple #[aH aA aB q n c,slides])∧w''.ownsRow w'.heap.size TI 1 (.slice q n c) n (ivs ys)∧Ext w' w''):
  Calls Tryz.prog 67 #[.pointer (some ⟨gA,0,none⟩),id] w fun e w'=>e= .returned (.tuple #[(-1:Int),.bool false])∧Ext w w':=by
 go_enter Tryz.func67,Tryz.ntmps67
 obtain⟨a0,a1,a2,a3,a4,a5,a6,a7,a8,a9⟩:=hA.out.ten
 have d:=hA.out.lt
 go_wp2_with fail
 clear a0 a1 a2 a3 a4 a5 a6 a7 a8 a9
 refine(HS _ (Ext.refl _)).mono ?_
 rintro e w1 ⟨p1,c1,rfl,a,b⟩
 have M1:=((Mem.start w).call b a)
 clear b a
 have hX:=xQ M1.ext
 go_wp2
 exact bodyPost_ret (v:= .tuple #[(-1:Int),.bool false]) (by simp[results,Tryz.results67,go_sem, *]) rfl ⟨rfl,by have:=hX.out;exact xE⟩
theorem aDv (w0 w:World)(R:Item)(gA:Nat)(aA aB free step aD aG aC aF id slides:Int)(p:OA)(n cap:Nat)(q:OA)(m c2:Nat)(xs ys:List Int)(vs:List aP)(hm:m≤900)(h0:0≤slides)(hl:Hid (vs.length=m))(hM:Hid (Mem w0 w [aJ w0.heap.size TI 1 (p) (n) (cap) (ivs (xs)),aJ w0.heap.size TV 4 (q) (m) (c2) (vs.flatMap aE),aI w0.heap.size (gA) aL #[aA,aB,.slice (p) n cap,free,step,aD,aG,aC,aF,.slice (q) m c2],R]))
  (HS:xC 112 #[aH aA aB p n cap,id] w fun w' e w''=> ∃q c,e= .returned (.tuple #[aH aA aB q n c,slides])∧w''.ownsRow w'.heap.size TI 1 (.slice q n c) n (ivs ys)∧Ext w' w''):
  Calls Tryz.prog 67 #[.pointer (some ⟨gA,0,none⟩),id] w fun e w'=> ∃p1 c1 q9 c9,e= .returned (.tuple #[slides,.bool true])∧Mem w0 w' [aJ w0.heap.size TI 1 (p1) (n) (c1) (ivs (ys)),aJ w0.heap.size TV 4 (q9) (m+1) (c9) ((jY (id,aC,0,aC) vs).flatMap aE),aI w0.heap.size (gA) aL #[aA,aB,.slice (p1) n c1,free,step,aD,aG,aC,aF,.slice (q9) (m+1) c9],R]:=by
 go_enter Tryz.func67,Tryz.ntmps67
 have s:gA<w.heap.size:=(hM.out.hi 2)
 have a0:=(hM.out.bk 2).cl 0
 have a1:=(hM.out.bk 2).cl 1
 have a2:=(hM.out.bk 2).cl 2
 go_wp2_with fail
 clear a0 a1 a2
 refine(HS _ (Ext.refl _)).mono ?_
 rintro e w1 ⟨p1,c1,rfl,ab,ae⟩
 have M1:=(hM.out.call ae ab)
 clear hM s ae ab
 have y:=M1.hi 3
 go_upto_region 2 with fail
 obtain⟨gV,r⟩: ∃gV,gV=w1.heap.size:=⟨_,rfl⟩
 rw[←r]
 have M2:=(M1.blkNew TH3 #[aA,aB,.slice p1 n c1] gV r.symm)
 generalize World.alloc _ _=w2 at M2⊢
 clear M1 y r
 have ag:=M2.hi 0
 have aj:=M2.hi 4
 have t0:decide (slides<0)=false:=by simp;omega
 obtain⟨v0,v1,v2⟩:=(M2.bk 0).tri
 have a0:=(M2.bk 4).cl 0
 have ai:=(M2.bk 4).frozen 0
 have a1:=(M2.bk 4).cl 1
 have ah:=(M2.bk 4).frozen 1
 have a2:=(M2.bk 4).cl 2
 have ak:=(M2.bk 4).frozen 2
 obtain⟨l,o⟩:=M2.nq 0 4
 go_upto_region 5 with fail
 clear v0 v1 v2 a0 ai a1 ah a2 ak l o
 have M3:=((M2.st 4 0 (.int .i64 aA)).st 4 1 (.int .i64 aB))
 have M4:=(M3.st 4 2 (.slice p1 n c1))
 have M5:=(M4)
 generalize ad:World.setCell _ _ _=w5
 rw[ad]at M5
 clear ad M2 M3 M4
 have M6:=(show Mem w0 w5 [aJ w0.heap.size TI 1 (p1) (n) (c1) (ivs (ys)),aJ w0.heap.size TV 4 (q) (m) (c2) (vs.flatMap aE),aI w0.heap.size (gA) aL #[aA,aB,.slice (p1) n c1,free,step,aD,aG,aC,aF,.slice (q) m c2],R]from(M5.pick [1,3,4,5] (by decide) rfl))
 clear M5
 go_wp2
 go_loopw [8] (fun at_ wr=> ∃(k:Nat),k≤m∧at_= .int .i64 (k:Int)∧(∀u∈vs.take k,u.1<id)∧w5=wr) (fun at_ _=>m-(intOf at_).toNat)
 case atStart=>exact⟨0,Nat.zero_le _,rfl,by simp,rfl⟩
 case round=>
  obtain⟨k,hk,rfl,af,rfl⟩:=hrel
  have h:=xQ af
  clear af
  have b9:=(M6.bk 2).cl 9
  have a:=(M6.hi 2)
  by_cases hkm:k<m
  ·obtain⟨gq,t,_,_⟩:=M6.so 1
   obtain⟨⟨a0,a1,a2,a3⟩,hx⟩: ∃x,vs[k]? =some x:=⟨_,List.getElem?_eq_getElem (by rw[hl.out];exact hkm)⟩
   have ca:w5.cell? ⟨gq,k*4,none⟩=some (.int .i64 a0):=by
    have h1:=(M6.ow 1)
    rw[t]at h1
    have h2:=h1.cellAt (k*4) (by omega)
    rw[h2]
    exact dZ aE 4 (fun _=>rfl) vs k _ hx 0 (by omega)
   have i1:(0:Int)≤(k:Int):=by omega
   have i2:(k:Int)<(m:Int):=by omega
   by_cases h7:a0<id
   ·have t1:decide (a0<id)=true:=by simp[h7]
    have aa:=xQ (show∀u∈vs.take (k+1),u.1<id from by
     intro u hu
     rw[bD hx,List.mem_append,List.mem_singleton]at hu
     rcases hu with hu|rfl
     ·exact h u hu
     ·exact h7)
    clear hx h7
    subst t
    go_wp2
    go_roundw
    case rel=>exact⟨k+1,by omega,by go_num,aa.out,by trivial⟩
    case measure=>simp[intOf];omega
   ·have t1:decide (a0<id)=false:=by simp;omega
    have j:=xQ (show∀u,vs[k]? =some u→ ¬u.1<id from fun u hu=>by rw[hx]at hu;injection hu with hu;subst hu;exact h7)
    clear hx h7
    subst t
    go_upto_region 8 with fail
    clear b9 ca i1 i2 t1 a
    have d:=xQ (pW (id,aC,0,aC) vs k h j.out)
    have HI:=xQ (fun(w1:World) (vb:Nat) (hx:Ext w5 w1) (hb:Blk w1 vb TV (aE (id,aC,0,aC)).toArray) (hle:w5.heap.size≤vb)=>aAt (w0:=w0) (w:=w1) (some ⟨gq,0,none⟩) k vb c2 m vs (id,aC,0,aC) 1 (by omega) hl (xQ (M6.adv hx)) (xQ hb) hk (fun g hg=>by have h7:=(M6.lt (i:=1) (g:=g) rfl hg).2;omega) (xQ rfl))
    rw[←d.out]at HI
    have a7:=(M6.bk 2).cl 7
    have a9:=(M6.bk 2).cl 9
    have a:=(M6.hi 2)
    clear h j d
    go_wp2_with fail
    go_region_with (first
     |(go_at_call 113;refine(HI _ _ (by first|exact(Ext.refl _).alloc _|exact Ext.drew ((Ext.refl _).alloc _)|exact xE) (by first|exact Blk.new _ _ _|exact(Blk.new _ _ _).ext (Ext.drew (Ext.refl _))) (by first|exact Nat.le_refl _|simp)).mono ?_
       rintro e w9 ⟨q9,c9,rfl,b⟩
       have M9:=(show Mem w0 w9 [aJ w0.heap.size TI 1 (p1) (n) (c1) (ivs (ys)),aJ w0.heap.size TV 4 (q9) (m+1) (c9) ((jY (id,aC,0,aC) vs).flatMap aE),aI w0.heap.size (gA) aL #[aA,aB,.slice (p1) n c1,free,step,aD,aG,aC,aF,.slice (some ⟨gq,0,none⟩) m c2],R]from b)
       clear b
       have x7:=(M9.bk 2).cl 7
       have x9:=(M9.bk 2).cl 9
       have z:=(M9.bk 2).frozen 9
       have f:=(M9.hi 2)))
    all_goals (
    clear a7 a9 a x7 x9 z f HI M6
    have MX:=(M9.st 2 9 (.slice q9 (m+1) c9))
    clear M9
    go_wp2
    exact bodyPost_ret (v:= .tuple #[slides,.bool true]) (by simp[results,Tryz.results67,go_sem, *]) rfl ⟨p1,c1,q9,c9,rfl,MX⟩)
  ·obtain rfl:m=k:=by omega
   have j:=xQ (show∀u,vs[m]? =some u→ ¬u.1<id from fun u hu=>by rw[List.getElem?_eq_none (by rw[hl.out];exact Nat.le_refl _)]at hu;cases hu)
   go_upto_region 8 with fail
   clear b9 a
   have d:=xQ (pW (id,aC,0,aC) vs m h j.out)
   have HI:=xQ (fun(w1:World) (vb:Nat) (hx:Ext w5 w1) (hb:Blk w1 vb TV (aE (id,aC,0,aC)).toArray) (hle:w5.heap.size≤vb)=>aAt (w0:=w0) (w:=w1) q m vb c2 m vs (id,aC,0,aC) 1 (by omega) hl (xQ (M6.adv hx)) (xQ hb) (Nat.le_refl _) (fun g hg=>by have h7:=(M6.lt (i:=1) (g:=g) rfl hg).2;omega) (xQ rfl))
   rw[←d.out]at HI
   have a7:=(M6.bk 2).cl 7
   have a9:=(M6.bk 2).cl 9
   have a:=(M6.hi 2)
   clear h j d
   go_wp2_with fail
   go_region_with (first
    |(go_at_call 113;refine(HI _ _ (by first|exact(Ext.refl _).alloc _|exact Ext.drew ((Ext.refl _).alloc _)|exact xE) (by first|exact Blk.new _ _ _|exact(Blk.new _ _ _).ext (Ext.drew (Ext.refl _))) (by first|exact Nat.le_refl _|simp)).mono ?_
      rintro e w9 ⟨q9,c9,rfl,b⟩
      have M9:=(show Mem w0 w9 [aJ w0.heap.size TI 1 (p1) (n) (c1) (ivs (ys)),aJ w0.heap.size TV 4 (q9) (m+1) (c9) ((jY (id,aC,0,aC) vs).flatMap aE),aI w0.heap.size (gA) aL #[aA,aB,.slice (p1) n c1,free,step,aD,aG,aC,aF,.slice (q) m c2],R]from b)
      clear b
      have x7:=(M9.bk 2).cl 7
      have x9:=(M9.bk 2).cl 9
      have z:=(M9.bk 2).frozen 9
      have f:=(M9.hi 2)))
   all_goals (
   clear a7 a9 a x7 x9 z f HI M6
   have MX:=(M9.st 2 9 (.slice q9 (m+1) c9))
   clear M9
   go_wp2
   exact bodyPost_ret (v:= .tuple #[slides,.bool true]) (by simp[results,Tryz.results67,go_sem, *]) rfl ⟨p1,c1,q9,c9,rfl,MX⟩)
theorem aGa (i pd a now f s p c amt D:Int)(w:World)(hD:0≤D)(hD2:D≤693)(hp0:0≤pd)(hp:pd≤9999)
  (HD:Hid (∀w,Calls Tryz.prog 84 #[aR f s p c,bP i pd a,now] w fun e w'=>e= .returned (.int .i64 D)∧Ext w w'))(ha:amt<1):
  Calls Tryz.prog 114 #[aR f s p c,bP i pd a,now,amt] w fun e w'=>e= .returned (.tuple #[bP 0 0 0,amt,.bool false])∧Ext w w':=by
 go_enter Tryz.func114,Tryz.ntmps114
 go_wp2_with fail
 refine(HD _).mono ?_
 rintro e w1 ⟨rfl,d⟩
 have M1:=(((((Mem.start w).bn TT4 #[f,s,p,c] (w.heap.size)).bn TS3 #[i,pd,a] (w.heap.size+1)).bn TS3 #[(),(),()] (w.heap.size+1+1)).adv d)
 have g:=M1.hi 0
 have l:=M1.hi 1
 have m:=M1.hi 2
 clear d HD
 have t0:decide (D<0)=false:=by simp;omega
 have t1:decide (amt<1)=true:=by simp;omega
 obtain⟨c0,c1,c2⟩:=(M1.bk 1).tri
 obtain⟨d0,j,d1,k,d2,h⟩:=(M1.bk 0).trif
 go_wp2
 clear c0 c1 c2 d0 j d1 k d2 h
 have M2:=(M1.put3 (i:=0) rfl (.int .i64 0) (.int .i64 0) (.int .i64 0))
 generalize b:World.setCell _ _ _=wz
 rw[b]at M2
 clear b M1
 obtain⟨y0,y1,y2⟩:=(M2.bk 0).tri
 exact bodyPost_ret (v:= .tuple #[.agg #[(),(),()],amt,.bool false]) (by simp[results,Tryz.results114,go_sem, *]) rfl ⟨rfl,M2.ext⟩
theorem aGb (i pd a now f s p c amt D:Int)(w:World)(hD:0≤D)(hD2:D≤693)(hp0:0≤pd)(hp:pd≤9999)
  (HD:Hid (∀w,Calls Tryz.prog 84 #[aR f s p c,bP i pd a,now] w fun e w'=>e= .returned (.int .i64 D)∧Ext w w'))(ha:300<amt):
  Calls Tryz.prog 114 #[aR f s p c,bP i pd a,now,amt] w fun e w'=>e= .returned (.tuple #[bP 0 0 0,amt,.bool false])∧Ext w w':=by
 go_enter Tryz.func114,Tryz.ntmps114
 go_wp2_with fail
 refine(HD _).mono ?_
 rintro e w1 ⟨rfl,d⟩
 have M1:=(((((Mem.start w).bn TT4 #[f,s,p,c] (w.heap.size)).bn TS3 #[i,pd,a] (w.heap.size+1)).bn TS3 #[(),(),()] (w.heap.size+1+1)).adv d)
 have g:=M1.hi 0
 have l:=M1.hi 1
 have m:=M1.hi 2
 clear d HD
 have t0:decide (D<0)=false:=by simp;omega
 have t1:decide (amt<1)=false:=by simp;omega
 have t2:decide (300<amt)=true:=by simp;omega
 obtain⟨c0,c1,c2⟩:=(M1.bk 1).tri
 obtain⟨d0,j,d1,k,d2,h⟩:=(M1.bk 0).trif
 go_wp2
 clear c0 c1 c2 d0 j d1 k d2 h
 have M2:=(M1.put3 (i:=0) rfl (.int .i64 0) (.int .i64 0) (.int .i64 0))
 generalize b:World.setCell _ _ _=wz
 rw[b]at M2
 clear b M1
 obtain⟨y0,y1,y2⟩:=(M2.bk 0).tri
 exact bodyPost_ret (v:= .tuple #[.agg #[(),(),()],amt,.bool false]) (by simp[results,Tryz.results114,go_sem, *]) rfl ⟨rfl,M2.ext⟩
theorem aAv (i pd a now f s p c amt:Int)(w:World)(hp0:0≤pd)(hp:pd≤9999)
  (HD:Hid (∀w,Calls Tryz.prog 84 #[aR f s p c,bP i pd a,now] w fun e w'=>e= .returned (.int .i64 0)∧Ext w w'))(ha:1≤amt)(hb:amt≤300):
  Calls Tryz.prog 114 #[aR f s p c,bP i pd a,now,amt] w fun e w'=>e= .returned (.tuple #[bP i pd a,amt,.bool false])∧Ext w w':=by
 go_enter Tryz.func114,Tryz.ntmps114
 go_wp2_with fail
 refine(HD _).mono ?_
 rintro e w1 ⟨rfl,d⟩
 have M1:=(((((Mem.start w).bn TT4 #[f,s,p,c] (w.heap.size)).bn TS3 #[i,pd,a] (w.heap.size+1)).bn TS3 #[(),(),()] (w.heap.size+1+1)).adv d)
 have g:=M1.hi 0
 have l:=M1.hi 1
 have m:=M1.hi 2
 clear d HD
 have t1:decide (amt<1)=false:=by simp;omega
 have t2:decide (300<amt)=false:=by simp;omega
 obtain⟨c0,c1,c2⟩:=(M1.bk 1).tri
 obtain⟨d0,j,d1,k,d2,h⟩:=(M1.bk 0).trif
 go_wp2
 clear c0 c1 c2 d0 j d1 k d2 h
 have M2:=(M1.put3 (i:=0) rfl (.int .i64 i) (.int .i64 pd) (.int .i64 a))
 generalize b:World.setCell _ _ _=wz
 rw[b]at M2
 clear b M1
 obtain⟨y0,y1,y2⟩:=(M2.bk 0).tri
 exact bodyPost_ret (v:= .tuple #[.agg #[i,pd,a],amt,.bool false]) (by simp[results,Tryz.results114,go_sem, *]) rfl ⟨rfl,M2.ext⟩
theorem aDh (i pd a now f s p c amt D:Int)(w:World)(hD:0≤D)(hD2:D≤693)(hp0:0≤pd)(hp:pd≤9999)
  (HD:Hid (∀w,Calls Tryz.prog 84 #[aR f s p c,bP i pd a,now] w fun e w'=>e= .returned (.int .i64 D)∧Ext w w'))(ha:1≤amt)(hb:amt≤300)(hD1:1≤D):
  Calls Tryz.prog 114 #[aR f s p c,bP i pd a,now,amt] w fun e w'=>e= .returned (.tuple #[bP i (pd+min D amt) now,(amt-min D amt:Int),.bool true])∧Ext w w':=by
 go_enter Tryz.func114,Tryz.ntmps114
 go_wp2_with fail
 refine(HD _).mono ?_
 rintro e w1 ⟨rfl,d⟩
 have M1:=(((((Mem.start w).bn TT4 #[f,s,p,c] (w.heap.size)).bn TS3 #[i,pd,a] (w.heap.size+1)).bn TS3 #[(),(),()] (w.heap.size+1+1)).adv d)
 have g:=M1.hi 0
 have l:=M1.hi 1
 have m:=M1.hi 2
 clear d HD
 have o:min amt D=min D amt:=Int.min_comm _ _
 have k1:IntKind.i64.wrap (pd+min D amt)=pd+min D amt:=IntWalk.i64_in _ (by omega)
 have k2:IntKind.i64.wrap (amt-min D amt)=amt-min D amt:=IntWalk.i64_in _ (by omega)
 have n:(D==0)=false:=by simp;omega
 have t0:decide (D<0)=false:=by simp;omega
 have t1:decide (amt<1)=false:=by simp;omega
 have t2:decide (300<amt)=false:=by simp;omega
 obtain⟨c0,c1,c2⟩:=(M1.bk 1).tri
 obtain⟨d0,j,d1,k,d2,h⟩:=(M1.bk 0).trif
 go_wp2
 clear c0 c1 c2 d0 j d1 k d2 h
 have M2:=(M1.put3 (i:=0) rfl (.int .i64 i) (.int .i64 (pd+min D amt)) (.int .i64 now))
 generalize b:World.setCell _ _ _=wz
 rw[b]at M2
 clear b M1
 obtain⟨y0,y1,y2⟩:=(M2.bk 0).tri
 exact bodyPost_ret (v:= .tuple #[.agg #[i,(pd+min D amt:Int),now],(amt-min D amt:Int),.bool true]) (by simp[results,Tryz.results114,go_sem, *]) rfl ⟨rfl,M2.ext⟩
theorem aAw (f s p c i pd a now amt:Int)(w:World)(h:aY f s p c=true)(h2:cS i pd a=true)(h3:a≤now)(h4:now≤9999):
  Calls Tryz.prog 114 #[aR f s p c,bP i pd a,now,amt] w fun e w'=>e= .returned (.tuple #[bP (eU f s p c i pd a now amt).1.1 (eU f s p c i pd a now amt).1.2.1 (eU f s p c i pd a now amt).1.2.2,.int .i64 (eU f s p c i pd a now amt).2.1,.bool (eU f s p c i pd a now amt).2.2])∧Ext w w':=by
 obtain⟨b1,b2,b3,b4,b5,b6⟩:=eK h2
 obtain⟨e1,e2⟩:=jE h h2 h3 h4
 have HD:=xQ (fun w=>uI f s p c i pd a now w h h2 h3 h4)
 unfold eU
 generalize bQ f s p c i pd a now=D at*
 by_cases ha:1≤amt∧amt≤300
 ·rw[if_pos ha]
  by_cases hd:D=0
  ·subst hd
   rw[if_pos rfl]
   exact aAv i pd a now f s p c amt w b3 b4 HD ha.1 ha.2
  ·rw[if_neg hd]
   exact aDh i pd a now f s p c amt D w e1 e2 b3 b4 HD ha.1 ha.2 (by omega)
 ·rw[if_neg ha]
  by_cases hb:amt<1
  ·exact aGa i pd a now f s p c amt D w e1 e2 b3 b4 HD hb
  ·exact aGb i pd a now f s p c amt D w e1 e2 b3 b4 HD (by omega)
theorem aBc (w:World)(gA:Nat)(aA aB free step aD aG aC aF id amt:Int)(p:OA)(n cap:Nat)(q:OA)(m c2:Nat)(hA:Hid (Blk w gA aL #[aA,aB,.slice p n cap,free,step,aD,aG,aC,aF,.slice q m c2]))
  (HX:xC 94 #[.agg #[aA,aB,.slice p n cap,free,step,aD,aG,aC,aF,.slice q m c2],id] w fun w' e w''=>e= .returned (.int .i64 (-1))∧Ext w' w''):
  Calls Tryz.prog 68 #[.pointer (some ⟨gA,0,none⟩),id,amt] w fun e w'=>e= .returned (.tuple #[(-1:Int),.bool false])∧Ext w w':=by
 obtain⟨a0,a1,a2,a3,a4,a5,a6,a7,a8,a9⟩:=hA.out.ten
 have a:=hA.out.lt
 go_enter Tryz.func68,Tryz.ntmps68
 go_wp2_with fail
 clear a0 a1 a2 a3 a4 a5 a6 a7 a8 a9
 refine(HX _ (Ext.refl _)).mono ?_
 rintro e w1 ⟨rfl,hx⟩
 have hX:=xQ hx
 clear hx
 go_wp2
 exact bodyPost_ret (v:= .tuple #[(-1:Int),.bool false]) (by simp[results,Tryz.results68,go_sem, *]) rfl ⟨rfl,hX.out⟩
theorem aBb (w0 w:World)(R:Item)(gA gq:Nat)(aA aB free step aD aG aC aF id amt:Int)(p:OA)(n cap m c2 k:Nat)(xs:List Int)(vs:List aP)(a0 a1 a2 a3 S1 S2 S3 bk:Int)(okb:Bool)(hk:k<m)(hm:m≤1000)(hbn:0≤aF)(hbn2:aF≤99999)(hok:okb=true→0≤bk∧bk≤amt∧amt≤300)(HV0:Hid (vs[k]? =some (a0,a1,a2,a3)))
  (hM:Hid (Mem w0 w [aJ w0.heap.size TI 1 (p) (n) (cap) (ivs xs),aJ w0.heap.size TV 4 (some ⟨gq,0,none⟩) (m) (c2) (vs.flatMap aE),aI w0.heap.size (gA) aL #[aA,aB,.slice p n cap,free,step,aD,aG,aC,aF,.slice (some ⟨gq,0,none⟩) m c2],R]))
  (HX:xC 94 #[.agg #[aA,aB,.slice p n cap,free,step,aD,aG,aC,aF,.slice (some ⟨gq,0,none⟩) m c2],id] w fun w' e w''=>e= .returned (.int .i64 (k:Int))∧Ext w' w'')
  (HP:Hid (∀w',Calls Tryz.prog 114 #[aR free step aD aG,bP a1 a2 a3,aC,amt] w' fun e w''=>e= .returned (.tuple #[bP S1 S2 S3,bk,.bool okb])∧Ext w' w'')):
  Calls Tryz.prog 68 #[.pointer (some ⟨gA,0,none⟩),id,amt] w fun e w'=>(e= .returned (.tuple #[(-1:Int),.bool false])∧ ¬(okb=true∧aF+amt-bk≤99999)∧Ext w w')∨
   (okb=true∧aF+amt-bk≤99999∧e= .returned (.tuple #[bk,.bool true])∧Mem w0 w' [aJ w0.heap.size TI 1 (p) (n) (cap) (ivs xs),aJ w0.heap.size TV 4 (some ⟨gq,0,none⟩) (m) (c2) ((vs.set k (a0,S1,S2,S3)).flatMap aE),aI w0.heap.size (gA) aL #[aA,aB,.slice p n cap,free,step,aD,aG,aC,(aF+amt-bk:Int),.slice (some ⟨gq,0,none⟩) m c2],R]):=by
 go_enter Tryz.func68,Tryz.ntmps68
 have ay:gA<w.heap.size:=(hM.out.hi 2)
 have j:=(hM.out.lt (i:=1) (g:=gq) rfl rfl).2
 have g1:w.cell? ⟨gq,k*4+1,none⟩=some (.int .i64 a1):=((hM.out.ow 1).cellAt (k*4+1) (by omega)).trans (dZ aE 4 (fun _=>rfl) vs k _ HV0.out 1 (by omega))
 have g2:w.cell? ⟨gq,k*4+2,none⟩=some (.int .i64 a2):=((hM.out.ow 1).cellAt (k*4+2) (by omega)).trans (dZ aE 4 (fun _=>rfl) vs k _ HV0.out 2 (by omega))
 have g3:w.cell? ⟨gq,k*4+3,none⟩=some (.int .i64 a3):=((hM.out.ow 1).cellAt (k*4+3) (by omega)).trans (dZ aE 4 (fun _=>rfl) vs k _ HV0.out 3 (by omega))
 obtain⟨z0,z1,z2,z3,z4,z5,z6,z7,z8,z9⟩:=(hM.out.bk 2).ten
 go_wp2_with fail
 clear z0 z1 z2 z3 z4 z5 z6 z7 z8 z9
 refine(HX _ (Ext.refl _)).mono ?_
 rintro e w2 ⟨rfl,aa⟩
 have h:=xQ aa
 have M2:=(hM.out.adv aa)
 clear aa HX
 have bj:=(M2.hi 2)
 have ad:gq<w2.heap.size:=Nat.lt_of_lt_of_le j h.out.sz
 have aj:w2.cell? ⟨gq,k*4+1,none⟩=some (.int .i64 a1):=(h.out.cells.1 _ _ j).trans g1
 have ah:w2.cell? ⟨gq,k*4+2,none⟩=some (.int .i64 a2):=(h.out.cells.1 _ _ j).trans g2
 have ak:w2.cell? ⟨gq,k*4+3,none⟩=some (.int .i64 a3):=(h.out.cells.1 _ _ j).trans g3
 clear g1 g2 g3
 obtain⟨a6,au,aq,al,a4,ax,am,an,ap,az⟩:=(M2.bk 2).ten
 have i1:(0:Int)≤(k:Int):=by omega
 have i2:(k:Int)<(m:Int):=by omega
 have t0: ¬((k:Int)<0):=by omega
 have n1: ¬(gA=w2.heap.size):=by omega
 have n2: ¬(w2.heap.size=gA):=by omega
 have n3: ¬(gq=w2.heap.size):=by omega
 have n4: ¬(w2.heap.size=gq):=by omega
 go_upto_region 4 with fail
 go_cut [9,10,11] (fun s11 s12 s13 wx=> ∃a:Nat,s11= .pointer (some ⟨a,0,none⟩)∧s12= .int .i64 bk∧s13= .bool okb∧Ext w2 wx∧w2.heap.size≤a∧Blk wx a TS3 #[S1,S2,S3])
 case first=>
  go_region_held3 (fun w'=>w'.cell? ⟨gA,3,none⟩=some (.int .i64 free)∧w'.cell? ⟨gA,4,none⟩=some (.int .i64 step)∧w'.cell? ⟨gA,5,none⟩=some (.int .i64 aD)∧w'.cell? ⟨gA,6,none⟩=some (.int .i64 aG)∧w'.cell? ⟨gA,7,none⟩=some (.int .i64 aC)∧w'.cell? ⟨gA,9,none⟩=some (.slice (some ⟨gq,0,none⟩) m c2)∧w'.cell? ⟨gq,k*4+1,none⟩=some (.int .i64 a1)∧w'.cell? ⟨gq,k*4+2,none⟩=some (.int .i64 a2)∧w'.cell? ⟨gq,k*4+3,none⟩=some (.int .i64 a3))
   (first|(refine⟨?_,?_,?_,?_,?_,?_,?_,?_,?_⟩<;>assumption)|go_keep)
   ((go_at_call 114
     refine(HP _).mono ?_
     rintro e w5 ⟨rfl,ag⟩
     have d:Ext w2 w5:=xE
     have bg:=((M2.bk 2).ext d).cl 3
     have bo:=((M2.bk 2).ext d).cl 4
     have bf:=((M2.bk 2).ext d).cl 5
     have bn:=((M2.bk 2).ext d).cl 6
     have bl:=((M2.bk 2).ext d).cl 7
     have bm:=((M2.bk 2).ext d).cl 9
     have bi:w5.cell? ⟨gq,k*4+1,none⟩=some (.int .i64 a1):=(d.cells.1 _ _ ad).trans aj
     have bp:w5.cell? ⟨gq,k*4+2,none⟩=some (.int .i64 a2):=(d.cells.1 _ _ ad).trans ah
     have bh:w5.cell? ⟨gq,k*4+3,none⟩=some (.int .i64 a3):=(d.cells.1 _ _ ad).trans ak
     first
      |(have y:Ext (w2.alloc (.cells #[(),(),()] TS3)) w5:=ag
        have BB:=(Blk.new w2 TS3 #[(),(),()]).ext y
        have aw:=BB.cl 0
        have be:=BB.frozen 0
        have ba:=BB.cl 1
        have ao:=BB.frozen 1
        have bc:=BB.cl 2
        have a9:w5.frozen? ⟨w2.heap.size,2,none⟩=false:=BB.frozen 2)
      |(have y:Ext (w2.alloc (.cells #[(),(),()] TS3)) w5:=ag.of_drew
        have BB:=(Blk.new w2 TS3 #[(),(),()]).ext y
        have aw:=BB.cl 0
        have be:=BB.frozen 0
        have ba:=BB.cl 1
        have ao:=BB.frozen 1
        have bc:=BB.cl 2
        have a9:w5.frozen? ⟨w2.heap.size,2,none⟩=false:=BB.frozen 2)
      |skip))
  ·go_wp2_with fail
   go_meet
   exact⟨w5.heap.size,rfl,rfl,rfl,xE,by have:=d.sz;omega,Blk.new _ _ _⟩
  ·have hR:ExtR w2.heap.size w5 _:=(((ExtR.refl w2.heap.size w5).setCell (p:=⟨w2.heap.size,0,none⟩) (.inl rfl) (.int .i64 S1)).setCell (p:=⟨w2.heap.size,1,none⟩) (.inl rfl) (.int .i64 S2)).setCell (p:=⟨w2.heap.size,2,none⟩) (.inl rfl) (.int .i64 S3)
   have hY:=((BB.set 0 (.int .i64 S1)).set 1 (.int .i64 S2)).set 2 (.int .i64 S3)
   simp only[List.setIfInBounds_toArray,List.set_cons_zero,List.set_cons_succ]at hY
   go_wp2_with fail
   go_meet
   exact⟨w2.heap.size,rfl,rfl,rfl,ExtR.new d hR (Nat.le_refl _),Nat.le_refl _,hY⟩
 case rest=>
  clear a6 au aq al a4 ax am an ap az aj ah ak HP n1 n2 n3 n4
  obtain⟨a,rfl,rfl,rfl,z,ha,ai⟩:=hcut
  have b:=xQ (h.out.trans z)
  have M3:=(M2.blkOf z ai ha)
  clear M2 z ha ai
  have x:=M3.hi 0
  have ab:=M3.hi 3
  cases okb with
  |false=>
   have ae:Hid (¬(false=true∧aF+amt-bk≤99999)):=by show¬_;simp
   go_wp2
   exact bodyPost_ret (v:= .tuple #[(-1:Int),.bool false]) (by simp[results,Tryz.results68,go_sem, *]) rfl (by
    have c:=ae.out
    first|exact .inl ⟨rfl,c,b.out⟩|exact .inl ⟨rfl,by omega,b.out⟩|exact .inl ⟨by omega,b.out⟩|exact .inl ⟨rfl,b.out⟩|exact .inl b.out|exact b.out|(simp at c;first|exact .inl ⟨rfl,c,b.out⟩|exact .inl ⟨c,b.out⟩|exact .inl ⟨rfl,by omega,b.out⟩|exact .inl ⟨by omega,b.out⟩))
  |true=>
   obtain⟨o1,o2,o3⟩:=hok rfl
   have k1:IntKind.i64.wrap (aF+amt)=aF+amt:=IntWalk.i64_in _ (by omega)
   have k2:IntKind.i64.wrap (aF+amt-bk)=aF+amt-bk:=IntWalk.i64_in _ (by omega)
   have k3:IntKind.i64.wrap (amt-bk)=amt-bk:=IntWalk.i64_in _ (by omega)
   have k4:IntKind.i64.wrap (aF+(amt-bk))=aF+amt-bk:=by rw[IntWalk.i64_in _ (by omega)];omega
   have h8:=(M3.bk 3).cl 8
   by_cases hq:aF+amt-bk≤99999
   ·have hd:decide (99999<aF+amt-bk)=false:=by simp;omega
    have u:=xQ hq
    clear hq
    go_upto_region 7 with fail
    clear h8
    have d9:=(M3.bk 3).cl 9
    obtain⟨a8,ar,bd⟩:=(M3.bk 0).tri
    have y1:wc.cell? ⟨gq,k*4+1,none⟩=some (.int .i64 a1):=((M3.ow 2).cellAt (k*4+1) (by omega)).trans (dZ aE 4 (fun _=>rfl) vs k _ HV0.out 1 (by omega))
    have z1:wc.frozen? ⟨gq,k*4+1,none⟩=false:=(M3.ow 2).frozenAt (k*4+1)
    have y2:wc.cell? ⟨gq,k*4+2,none⟩=some (.int .i64 a2):=((M3.ow 2).cellAt (k*4+2) (by omega)).trans (dZ aE 4 (fun _=>rfl) vs k _ HV0.out 2 (by omega))
    have z2:wc.frozen? ⟨gq,k*4+2,none⟩=false:=(M3.ow 2).frozenAt (k*4+2)
    have y3:wc.cell? ⟨gq,k*4+3,none⟩=some (.int .i64 a3):=((M3.ow 2).cellAt (k*4+3) (by omega)).trans (dZ aE 4 (fun _=>rfl) vs k _ HV0.out 3 (by omega))
    have z3:wc.frozen? ⟨gq,k*4+3,none⟩=false:=(M3.ow 2).frozenAt (k*4+3)
    obtain⟨q,r⟩:=M3.nq 0 3
    obtain⟨s,o⟩:=M3.nq 2 3
    obtain⟨l,t⟩:=M3.nq 0 2
    go_region
    clear d9 a8 ar bd y1 z1 y2 z2 y3 z3 q r s o l t
    have av:Hid ((((vs.flatMap aE).set (k*4+1) (.int .i64 S1)).set (k*4+2) (.int .i64 S2)).set (k*4+3) (.int .i64 S3)=(vs.set k (a0,S1,S2,S3)).flatMap aE):=wF HV0 S1 S2 S3
    have MX:=(show Mem w0 (((wc.setCell ⟨gq,k*4+1,none⟩ (.int .i64 S1)).setCell ⟨gq,k*4+2,none⟩ (.int .i64 S2)).setCell ⟨gq,k*4+3,none⟩ (.int .i64 S3)).drew [aI w0.heap.size (a) TS3 #[S1,S2,S3],aJ w0.heap.size TI 1 (p) (n) (cap) (ivs xs),aJ w0.heap.size TV 4 (some ⟨gq,0,none⟩) (m) (c2) ((vs.set k (a0,S1,S2,S3)).flatMap aE),aI w0.heap.size (gA) aL #[aA,aB,.slice p n cap,free,step,aD,aG,aC,aF,.slice (some ⟨gq,0,none⟩) m c2],R]from by rw[←av.out];exact(((M3.ostore (i:=2) rfl (k*4+1) (.int .i64 S1)).ostore (i:=2) rfl (k*4+2) (.int .i64 S2)).ostore (i:=2) rfl (k*4+3) (.int .i64 S3)).adv (Ext.drew (Ext.refl _)))
    generalize af:World.drew _=w7
    rw[af]at MX
    clear af M3 x ab
    have a7:a<w7.heap.size:=(MX.hi 0)
    have bb:gA<w7.heap.size:=(MX.hi 3)
    have d8:=(MX.bk 3).cl 8
    have a5:=(MX.bk 3).frozen 8
    go_wp2
    clear d8 a5
    exact bodyPost_ret (v:= .tuple #[bk,.bool true]) (by simp[results,Tryz.results68,go_sem, *]) rfl (by have f:Hid (Mem w0 _ [aJ w0.heap.size TI 1 (p) (n) (cap) (ivs xs),aJ w0.heap.size TV 4 (some ⟨gq,0,none⟩) (m) (c2) ((vs.set k (a0,S1,S2,S3)).flatMap aE),aI w0.heap.size (gA) aL #[aA,aB,.slice p n cap,free,step,aD,aG,aC,(aF+amt-bk:Int),.slice (some ⟨gq,0,none⟩) m c2],R]):=((MX.store (i:=3) rfl 8 (.int .i64 (aF+amt-bk))).pick [1,2,3,4] (by decide) rfl);first|exact .inr ⟨rfl,u.out,rfl,f.out⟩|exact .inr ⟨u.out,rfl,f.out⟩|exact .inr ⟨u.out,f.out⟩)
   ·have ae:Hid (¬(true=true∧aF+amt-bk≤99999)):=by show¬_;simp[hq]
    have hd:decide (99999<aF+amt-bk)=true:=by simp;omega
    go_wp2
    exact bodyPost_ret (v:= .tuple #[(-1:Int),.bool false]) (by simp[results,Tryz.results68,go_sem, *]) rfl (by
     have c:=ae.out
     first|exact .inl ⟨rfl,c,b.out⟩|exact .inl ⟨rfl,by omega,b.out⟩|exact .inl ⟨by omega,b.out⟩|exact .inl ⟨rfl,b.out⟩|exact .inl b.out|exact b.out|(simp at c;first|exact .inl ⟨rfl,c,b.out⟩|exact .inl ⟨c,b.out⟩|exact .inl ⟨rfl,by omega,b.out⟩|exact .inl ⟨by omega,b.out⟩))
end Go.Proofs.YtgnkoffndhmhpaaGreatDoor
