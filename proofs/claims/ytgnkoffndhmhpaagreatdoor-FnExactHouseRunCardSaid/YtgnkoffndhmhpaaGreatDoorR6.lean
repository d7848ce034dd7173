/-
  Texts of this proof, packed (@packed).
-/
import Derived.Test.YtgnkoffndhmhpaaGreatDoorR5
namespace Go.Proofs.YtgnkoffndhmhpaaGreatDoor
open Go.RowKit
set_option linter.unusedVariables false
set_option linter.unusedSimpArgs false
set_option maxHeartbeats 8000000
set_option maxRecDepth 100000
def cJ (aA aB:Int)(xs:List Int)(b:Bool)(w:World)(e:Ending)(w':World):Prop:=
 ∃p cap,e= .returned (.tuple #[aI aA aB p xs.length cap,.bool b])∧w'.ownsRow w.heap.size TI 1 (.slice p xs.length cap) xs.length (ivs xs)∧Ext w w'
theorem dN {aA aB:Int}{p:OA}{n cap:Nat}{xs:List Int}{b:Bool}{w w':World}(hn:xs.length=n)(ho:w'.ownsRow w.heap.size TI 1 (.slice p n cap) n (ivs xs))(hx:Ext w w'):cJ aA aB xs b w (.returned (.tuple #[aI aA aB p n cap,.bool b])) w':=by
 subst hn;exact⟨p,cap,rfl,ho,hx⟩
theorem eB {w:World}{B n sz:Nat}{e:TypeId}{q:OA}{cap:Nat}{xs:List Value}(ho:w.ownsRow B e sz (.slice q n cap) n xs)(h:0<n): ∃g,q=some ⟨g,0,none⟩∧B≤g∧g<w.heap.size:=by
 rcases ho.2 with⟨h1,h2⟩|⟨g',cap',cur,h1,hb',hg,r⟩
 ·omega
 ·injection h1 with e1;exact⟨g',e1,hb',(Array.getElem?_eq_some_iff.1 hg).1⟩
theorem dI (xs:List Int)(k:Nat)(x:Int):(ivs xs).set k (iv x)=ivs (xs.set k x):=by simp[ivs,List.map_set]
theorem aD6 (aA aB:Int)(p:OA)(cap:Nat)(i j:Int)(xs:List Int)(w:World)(hn0:4≤xs.length)(hn:xs.length≤12)
  (HV:xB 90 #[aI aA aB p xs.length cap] w true)
  (HC:Hid (∀w',Ext w w'→Calls Tryz.prog 104 #[aI aA aB p xs.length cap] w' (dF aA aB xs w')))
  (HM:xB 127 #[aI aA aB p xs.length cap,dK i j] w false):
  Calls Tryz.prog 78 #[aI aA aB p xs.length cap,dK i j] w (cJ aA aB xs false w):=by
 go_enter Tryz.func78,Tryz.ntmps78
 have X_0:=xQ (Ext.refl w)
 go_wp2_with fail
 refine(HV.out _ (by exact .alloc (.alloc (.alloc (.refl _) _) _) _)).mono ?_
 rintro e w1 ⟨rfl,hx1⟩
 have hy1:Ext w w1:=((((Ext.refl _).alloc _).alloc _).alloc _).trans hx1
 have z1:w.heap.size+3≤w1.heap.size:=by have:=hx1.sz;(try simp at this);omega
 have X_1:=xQ (X_0.out.trans hy1)
 clear X_0
 have H_1:=xQ (show Blk w1 (w.heap.size) TH3 #[aA,aB,.slice p xs.length cap] by have:=(((Blk.new w TH3 #[aA,aB,.slice p xs.length cap]).alloc _).alloc _).ext hx1;simpa using this)
 have S_1:=xQ (show Blk w1 (w.heap.size+1) TSL #[i,j] by have:=((Blk.new (w.alloc (.cells #[aA,aB,.slice p xs.length cap] TH3)) TSL #[i,j]).alloc _).ext hx1;simpa using this)
 have Z_1:=xQ (show Blk w1 (w.heap.size+1+1) TH3 #[(),(),((),())] by have:=(Blk.new ((w.alloc (.cells #[aA,aB,.slice p xs.length cap] TH3)).alloc (.cells #[i,j] TSL)) TH3 #[(),(),((),())]).ext hx1;simpa using this)
 clear hy1
 have ltH_1:w.heap.size<w1.heap.size:=H_1.out.lt
 have ltS_1:w.heap.size+1<w1.heap.size:=S_1.out.lt
 have ltZ_1:w.heap.size+1+1<w1.heap.size:=Z_1.out.lt
 clear hx1
 obtain⟨c0,c1,c2⟩:=(H_1.out).tri
 go_wp2_with fail
 clear c0 c1 c2
 refine(HC.out _ X_1.out).mono ?_
 rintro e w2 ⟨q,c2,rfl,ho,hx2⟩
 have hy2:Ext w1 w2:=by exact hx2
 have z2:w1.heap.size+0≤w2.heap.size:=by have:=hx2.sz;(try simp at this);omega
 have X_2:=xQ (X_1.out.trans hy2)
 have H_2:=xQ (H_1.out.ext hy2)
 have S_2:=xQ (S_1.out.ext hy2)
 have Z_2:=xQ (Z_1.out.ext hy2)
 clear X_1 H_1 S_1 Z_1 hy2 ltH_1
 have ltH_2:w.heap.size<w2.heap.size:=H_2.out.lt
 clear ltS_1
 have ltS_2:w.heap.size+1<w2.heap.size:=S_2.out.lt
 clear ltZ_1
 have ltZ_2:w.heap.size+1+1<w2.heap.size:=Z_2.out.lt
 obtain⟨g,rfl,hg1,hg2⟩:=eB ho (by omega)
 have O_2:=xQ (ho)
 clear hx2 ho
 obtain⟨c0,c1,c2⟩:=(H_2.out).tri
 have s0:w2.cell? ⟨w.heap.size+1,0,none⟩=some (.int .i64 i):=S_2.out.cell 0
 have s1:w2.cell? ⟨w.heap.size+1,1,none⟩=some (.int .i64 j):=S_2.out.cell 1
 go_wp2_with fail
 clear c0 c1 c2 s0 s1
 refine(HM.out _ (X_2.out.alloc _)).mono ?_
 rintro e w3 ⟨rfl,hx3⟩
 have hy3:Ext w2 w3:=((Ext.refl _).alloc _).trans hx3
 have z3:w2.heap.size+1≤w3.heap.size:=by have:=hx3.sz;(try simp at this);omega
 have X_3:=xQ (X_2.out.trans hy3)
 have H_3:=xQ (H_2.out.ext hy3)
 have S_3:=xQ (S_2.out.ext hy3)
 have Z_3:=xQ (Z_2.out.ext hy3)
 have O_3:=xQ (bB O_2.out hy3)
 clear X_2 H_2 S_2 Z_2 O_2
 have V_3:=xQ (show Blk w3 (w2.heap.size) TH3 #[aA,aB,.slice (some ⟨g,0,none⟩) xs.length c2] by have:=(Blk.new w2 TH3 #[aA,aB,.slice (some ⟨g,0,none⟩) xs.length c2]).ext hx3;simpa using this)
 clear hy3 ltH_2
 have ltH_3:w.heap.size<w3.heap.size:=H_3.out.lt
 clear ltS_2
 have ltS_3:w.heap.size+1<w3.heap.size:=S_3.out.lt
 clear ltZ_2
 have ltZ_3:w.heap.size+1+1<w3.heap.size:=Z_3.out.lt
 have ltV_3:w2.heap.size<w3.heap.size:=V_3.out.lt
 clear hx3
 obtain⟨v0,v1,v2⟩:=(V_3.out).tri
 obtain⟨z0,zf0,z1,zf1,z2,zf2⟩:=(Z_3.out).trif
 go_wp2
 have y4:=(((Z_3.out).set 0 (.int .i64 aA)).set 1 (.int .i64 aB)).set 2 (.slice (some ⟨g,0,none⟩) xs.length c2)
 simp only[List.setIfInBounds_toArray,List.set_cons_zero,List.set_cons_succ]at y4
 generalize hw4:World.setCell _ _ _=w4
 rw[hw4]at y4
 have hR4:ExtR (w.heap.size+1+1) w3 w4:=by rw[←hw4];exact(((ExtR.refl (w.heap.size+1+1) w3).setCell (p:=⟨w.heap.size+1+1,0,none⟩) (.inl rfl) (.int .i64 aA)).setCell (p:=⟨w.heap.size+1+1,1,none⟩) (.inl rfl) (.int .i64 aB)).setCell (p:=⟨w.heap.size+1+1,2,none⟩) (.inl rfl) (.slice (some ⟨g,0,none⟩) xs.length c2)
 clear hw4
 have z4:w3.heap.size≤w4.heap.size:=hR4.sz
 have X_4:=xQ (ExtR.new X_3.out hR4 (by omega))
 have H_4:=xQ (show Blk w4 (w.heap.size) _ _ from(hR4.block _ H_3.out.lt (by first|(simp;done)|(simp;omega))).trans H_3.out)
 have S_4:=xQ (show Blk w4 (w.heap.size+1) _ _ from(hR4.block _ S_3.out.lt (by first|(simp;done)|(simp;omega))).trans S_3.out)
 have Z_4:=xQ (y4)
 have O_4:=xQ (O_3.out.kept hR4 (.inr (cY O_3.out Z_3.out (by decide))))
 have V_4:=xQ (show Blk w4 (w2.heap.size) _ _ from(hR4.block _ V_3.out.lt (by first|(simp;done)|(simp;omega))).trans V_3.out)
 clear X_3 H_3 S_3 Z_3 O_3 V_3 hR4 y4 ltH_3
 have ltH_4:w.heap.size<w4.heap.size:=H_4.out.lt
 clear ltS_3
 have ltS_4:w.heap.size+1<w4.heap.size:=S_4.out.lt
 clear ltZ_3
 have ltZ_4:w.heap.size+1+1<w4.heap.size:=Z_4.out.lt
 clear ltV_3
 have ltV_4:w2.heap.size<w4.heap.size:=V_4.out.lt
 clear v0 v1 v2 z0 zf0 z1 zf1 z2 zf2
 obtain⟨y0,y1,y2⟩:=(Z_4.out).tri
 exact bodyPost_ret (v:= .tuple #[.agg #[aA,aB,.slice (some ⟨g,0,none⟩) xs.length c2],.bool false]) (by simp[results,Tryz.results78,go_sem, *]) rfl (dN (by simp) (bG (by exact O_4.out) (by omega)) X_4.out)
theorem aAa (aA aB:Int)(cap i j b off:Nat)(x yj:Int)(xs:List Int)(w:World)(hn0:4≤xs.length)(hn:xs.length≤12)(hi:i<xs.length)(hj:j<xs.length)(hij:i≠j)(HX:Hid (xs[i]? =some x)) (HY:Hid (xs[j]? =some yj))
  (hb:b<w.heap.size) (HCX:Hid (w.cell? ⟨b,off+i,none⟩=some (.int .i64 x)))
  (HV:xB 90 #[aI aA aB (some ⟨b,off,none⟩) xs.length cap] w true)
  (HC:Hid (∀w',Ext w w'→Calls Tryz.prog 104 #[aI aA aB (some ⟨b,off,none⟩) xs.length cap] w' (dF aA aB xs w')))
  (HM:xB 127 #[aI aA aB (some ⟨b,off,none⟩) xs.length cap,dK (i:Int) (j:Int)] w true):
  Calls Tryz.prog 78 #[aI aA aB (some ⟨b,off,none⟩) xs.length cap,dK (i:Int) (j:Int)] w (cJ aA aB ((xs.set j x).set i 0) true w):=by
 have a1:(0:Int)≤(i:Int):=by omega
 have a2:(0:Int)≤(j:Int):=by omega
 have a3:(i:Int)<(xs.length:Int):=by omega
 have a4:(j:Int)<(xs.length:Int):=by omega
 go_enter Tryz.func78,Tryz.ntmps78
 have X_0:=xQ (Ext.refl w)
 go_wp2_with fail
 refine(HV.out _ (by exact .alloc (.alloc (.alloc (.refl _) _) _) _)).mono ?_
 rintro e w1 ⟨rfl,hx1⟩
 have hy1:Ext w w1:=((((Ext.refl _).alloc _).alloc _).alloc _).trans hx1
 have z1:w.heap.size+3≤w1.heap.size:=by have:=hx1.sz;(try simp at this);omega
 have X_1:=xQ (X_0.out.trans hy1)
 clear X_0
 have H_1:=xQ (show Blk w1 (w.heap.size) TH3 #[aA,aB,.slice (some ⟨b,off,none⟩) xs.length cap] by have:=(((Blk.new w TH3 #[aA,aB,.slice (some ⟨b,off,none⟩) xs.length cap]).alloc _).alloc _).ext hx1;simpa using this)
 have S_1:=xQ (show Blk w1 (w.heap.size+1) TSL #[(i:Int),(j:Int)] by have:=((Blk.new (w.alloc (.cells #[aA,aB,.slice (some ⟨b,off,none⟩) xs.length cap] TH3)) TSL #[(i:Int),(j:Int)]).alloc _).ext hx1;simpa using this)
 have Z_1:=xQ (show Blk w1 (w.heap.size+1+1) TH3 #[(),(),((),())] by have:=(Blk.new ((w.alloc (.cells #[aA,aB,.slice (some ⟨b,off,none⟩) xs.length cap] TH3)).alloc (.cells #[(i:Int),(j:Int)] TSL)) TH3 #[(),(),((),())]).ext hx1;simpa using this)
 clear hy1
 have ltH_1:w.heap.size<w1.heap.size:=H_1.out.lt
 have ltS_1:w.heap.size+1<w1.heap.size:=S_1.out.lt
 have ltZ_1:w.heap.size+1+1<w1.heap.size:=Z_1.out.lt
 clear hx1
 obtain⟨c0,c1,c2⟩:=(H_1.out).tri
 go_wp2_with fail
 clear c0 c1 c2
 refine(HC.out _ X_1.out).mono ?_
 rintro e w2 ⟨q,c2,rfl,ho,hx2⟩
 have hy2:Ext w1 w2:=by exact hx2
 have z2:w1.heap.size+0≤w2.heap.size:=by have:=hx2.sz;(try simp at this);omega
 have X_2:=xQ (X_1.out.trans hy2)
 have H_2:=xQ (H_1.out.ext hy2)
 have S_2:=xQ (S_1.out.ext hy2)
 have Z_2:=xQ (Z_1.out.ext hy2)
 clear X_1 H_1 S_1 Z_1 hy2 ltH_1
 have ltH_2:w.heap.size<w2.heap.size:=H_2.out.lt
 clear ltS_1
 have ltS_2:w.heap.size+1<w2.heap.size:=S_2.out.lt
 clear ltZ_1
 have ltZ_2:w.heap.size+1+1<w2.heap.size:=Z_2.out.lt
 obtain⟨g,rfl,hg1,hg2⟩:=eB ho (by omega)
 have O_2:=xQ (ho)
 clear hx2 ho
 obtain⟨c0,c1,c2⟩:=(H_2.out).tri
 have s0:w2.cell? ⟨w.heap.size+1,0,none⟩=some (.int .i64 (i:Int)):=S_2.out.cell 0
 have s1:w2.cell? ⟨w.heap.size+1,1,none⟩=some (.int .i64 (j:Int)):=S_2.out.cell 1
 go_wp2_with fail
 clear c0 c1 c2 s0 s1
 refine(HM.out _ (X_2.out.alloc _)).mono ?_
 rintro e w3 ⟨rfl,hx3⟩
 have hy3:Ext w2 w3:=((Ext.refl _).alloc _).trans hx3
 have z3:w2.heap.size+1≤w3.heap.size:=by have:=hx3.sz;(try simp at this);omega
 have X_3:=xQ (X_2.out.trans hy3)
 have H_3:=xQ (H_2.out.ext hy3)
 have S_3:=xQ (S_2.out.ext hy3)
 have Z_3:=xQ (Z_2.out.ext hy3)
 have O_3:=xQ (bB O_2.out hy3)
 clear X_2 H_2 S_2 Z_2 O_2
 have V_3:=xQ (show Blk w3 (w2.heap.size) TH3 #[aA,aB,.slice (some ⟨g,0,none⟩) xs.length c2] by have:=(Blk.new w2 TH3 #[aA,aB,.slice (some ⟨g,0,none⟩) xs.length c2]).ext hx3;simpa using this)
 clear hy3 ltH_2
 have ltH_3:w.heap.size<w3.heap.size:=H_3.out.lt
 clear ltS_2
 have ltS_3:w.heap.size+1<w3.heap.size:=S_3.out.lt
 clear ltZ_2
 have ltZ_3:w.heap.size+1+1<w3.heap.size:=Z_3.out.lt
 have ltV_3:w2.heap.size<w3.heap.size:=V_3.out.lt
 clear hx3
 go_wp2
 refine cS (gl [gEq (.pointer (some ⟨w2.heap.size,2,none⟩)),gEq (.slice (some ⟨g,0,none⟩) xs.length c2),gEq (.pointer (some ⟨w.heap.size+1,1,none⟩)),gEq (j:Int),gEq (.pointer (some ⟨w.heap.size,2,none⟩)),gEq (.slice (some ⟨b,off,none⟩) xs.length cap),gEq (.pointer (some ⟨w.heap.size+1,0,none⟩)),gEq (i:Int),gEq (.pointer (some ⟨b,off+i,none⟩)),gEq x,gEq (.pointer (some ⟨g,j,none⟩))]) 11 (by kernel_rfl) rfl (by kernel_rfl) (by kernel_rfl) (by kernel_rfl) (eG (aK (aH _) (aK (aH _) (aK (aH _) (aK (aH _) (aK (aH _) (aK (aH _) (aK (aH _) (aK (aH _) (aK (aH _) (aK (aH _) (aK (aH _) (fK))))))))))))) (k:=12) (by kernel_rfl) (by decide) (ls:= [(0,some 18),(1,some 19),(2,some 20),(3,some 21),(4,some 22),(5,some 23),(6,some 24),(7,some 25),(8,some 26),(9,some 27),(10,some 28)]) (by kernel_rfl) (ir:= [0,1,2,3,4,5,6,7,8,9,10]) (by kernel_rfl) ?steps (tl:=#[true,true,true,true,true,true,true,true,true,true,true,false]) (by kernel_rfl) ?fin
 case steps=>
  refine sC [] rfl (fun wi hx=> ?_) ?_
  ·intro K hK
   go_simp
   exact hK _ _ ⟨.pointer (some ⟨w2.heap.size,2,none⟩),rfl,rfl,Ext.refl _⟩
  refine sC [(0,some 18)] rfl (fun wi hx=> ?_) ?_
  ·intro v0 h0 K hK
   obtain rfl:=h0
   have B:=V_3.out.ext hx.of_drew
   have cc2:wi.cell? ⟨w2.heap.size,2,none⟩=some (.slice (some ⟨g,0,none⟩) xs.length c2):=B.cell 2
   go_simp
   exact hK _ _ ⟨.slice (some ⟨g,0,none⟩) xs.length c2,rfl,rfl,Ext.refl _⟩
  refine sC [] rfl (fun wi hx=> ?_) ?_
  ·intro K hK
   go_simp
   exact hK _ _ ⟨.pointer (some ⟨w.heap.size+1,1,none⟩),rfl,rfl,Ext.refl _⟩
  refine sC [(2,some 20)] rfl (fun wi hx=> ?_) ?_
  ·intro v2 h2 K hK
   obtain rfl:=h2
   have B:=S_3.out.ext hx.of_drew
   have cc1:wi.cell? ⟨w.heap.size+1,1,none⟩=some (.int .i64 (j:Int)):=B.cell 1
   go_simp
   exact hK _ _ ⟨.int .i64 (j:Int),rfl,rfl,Ext.refl _⟩
  refine sC [] rfl (fun wi hx=> ?_) ?_
  ·intro K hK
   go_simp
   exact hK _ _ ⟨.pointer (some ⟨w.heap.size,2,none⟩),rfl,rfl,Ext.refl _⟩
  refine sC [(4,some 22)] rfl (fun wi hx=> ?_) ?_
  ·intro v4 h4 K hK
   obtain rfl:=h4
   have B:=H_3.out.ext hx.of_drew
   have cc2:wi.cell? ⟨w.heap.size,2,none⟩=some (.slice (some ⟨b,off,none⟩) xs.length cap):=B.cell 2
   go_simp
   exact hK _ _ ⟨.slice (some ⟨b,off,none⟩) xs.length cap,rfl,rfl,Ext.refl _⟩
  refine sC [] rfl (fun wi hx=> ?_) ?_
  ·intro K hK
   go_simp
   exact hK _ _ ⟨.pointer (some ⟨w.heap.size+1,0,none⟩),rfl,rfl,Ext.refl _⟩
  refine sC [(6,some 24)] rfl (fun wi hx=> ?_) ?_
  ·intro v6 h6 K hK
   obtain rfl:=h6
   have B:=S_3.out.ext hx.of_drew
   have cc0:wi.cell? ⟨w.heap.size+1,0,none⟩=some (.int .i64 (i:Int)):=B.cell 0
   go_simp
   exact hK _ _ ⟨.int .i64 (i:Int),rfl,rfl,Ext.refl _⟩
  refine sC [(5,some 23),(7,some 25)] rfl (fun wi hx=> ?_) ?_
  ·intro v5 h5 v7 h7 K hK
   obtain rfl:=h5
   obtain rfl:=h7
   go_simp
   exact hK _ _ ⟨.pointer (some ⟨b,off+i,none⟩),rfl,rfl,Ext.refl _⟩
  refine sC [(8,some 26)] rfl (fun wi hx=> ?_) ?_
  ·intro v8 h8 K hK
   obtain rfl:=h8
   have cx:wi.cell? ⟨b,off+i,none⟩=some (.int .i64 x):=(Ext.cells (X_3.out.trans hx.of_drew)).1 _ _ hb |>.trans HCX.out
   go_simp
   exact hK _ _ ⟨.int .i64 x,rfl,rfl,Ext.refl _⟩
  refine sC [(1,some 19),(3,some 21)] rfl (fun wi hx=> ?_) StepsL.nil
  ·intro v1 h1 v3 h3 K hK
   obtain rfl:=h1
   obtain rfl:=h3
   go_simp
   exact hK _ _ ⟨.pointer (some ⟨g,j,none⟩),rfl,rfl,Ext.refl _⟩
 case fin=>
  intro wi hx v0 h0 v1 h1 v2 h2 v3 h3 v4 h4 v5 h5 v6 h6 v7 h7 v8 h8 v9 h9 v10 h10
  obtain rfl:=h0
  obtain rfl:=h1
  obtain rfl:=h2
  obtain rfl:=h3
  obtain rfl:=h4
  obtain rfl:=h5
  obtain rfl:=h6
  obtain rfl:=h7
  obtain rfl:=h8
  obtain rfl:=h9
  obtain rfl:=h10
  have hy4:Ext w3 wi:=by exact .trans (.drew (.refl _)) hx
  have z4:w3.heap.size+0≤wi.heap.size:=by have:=hx.sz;(try simp at this);omega
  have X_4:=xQ (X_3.out.trans hy4)
  have H_4:=xQ (H_3.out.ext hy4)
  have S_4:=xQ (S_3.out.ext hy4)
  have Z_4:=xQ (Z_3.out.ext hy4)
  have O_4:=xQ (bB O_3.out hy4)
  have V_4:=xQ (V_3.out.ext hy4)
  clear X_3 H_3 S_3 Z_3 O_3 V_3 hy4 ltH_3
  have ltH_4:w.heap.size<wi.heap.size:=H_4.out.lt
  clear ltS_3
  have ltS_4:w.heap.size+1<wi.heap.size:=S_4.out.lt
  clear ltZ_3
  have ltZ_4:w.heap.size+1+1<wi.heap.size:=Z_4.out.lt
  clear ltV_3
  have ltV_4:w2.heap.size<wi.heap.size:=V_4.out.lt
  clear hx
  have gj:wi.cell? ⟨g,j,none⟩=some (.int .i64 yj):=by have:=O_4.out.cellAt j (by omega);rw[this];simpa[ivs]using HY.out
  have gf:wi.frozen? ⟨g,j,none⟩=false:=O_4.out.frozenAt j
  refine wpAny_ready (rs:= [11]) (by kernel_rfl) (by simp) ?_
  refine AllReady.cons rfl (fun K hK=> ?_) AllReady.nil
  go_simp
  refine hK _ _ ?_
  clear hK K gj gf
  have y5:=(O_4.out.stored (j) (.int .i64 x)).1
  have hR5:ExtR (g) wi _:=(O_4.out.stored (j) (.int .i64 x)).2
  have se5:(World.setCell wi ⟨g,j,none⟩ (.int .i64 x)).heap.size=wi.heap.size:=by simp
  generalize hw5:World.setCell _ _ _=w5 at*
  clear hw5
  have z5:wi.heap.size≤w5.heap.size:=Nat.le_of_eq se5.symm
  have zz5:w5.heap.size≤wi.heap.size:=Nat.le_of_eq se5
  clear se5
  have X_5:=xQ (ExtR.new X_4.out hR5 (by omega))
  have H_5:=xQ (show Blk w5 (w.heap.size) _ _ from(hR5.block _ H_4.out.lt (by first|(simp;done)|(simp;omega))).trans H_4.out)
  have S_5:=xQ (show Blk w5 (w.heap.size+1) _ _ from(hR5.block _ S_4.out.lt (by first|(simp;done)|(simp;omega))).trans S_4.out)
  have Z_5:=xQ (show Blk w5 (w.heap.size+1+1) _ _ from(hR5.block _ Z_4.out.lt (by first|(simp;done)|(simp;omega))).trans Z_4.out)
  have O_5:=xQ (y5)
  have V_5:=xQ (show Blk w5 (w2.heap.size) _ _ from(hR5.block _ V_4.out.lt (by first|(simp;done)|(simp;omega))).trans V_4.out)
  clear X_4 H_4 S_4 Z_4 O_4 V_4 hR5 y5 ltH_4
  have ltH_5:w.heap.size<w5.heap.size:=H_5.out.lt
  clear ltS_4
  have ltS_5:w.heap.size+1<w5.heap.size:=S_5.out.lt
  clear ltZ_4
  have ltZ_5:w.heap.size+1+1<w5.heap.size:=Z_5.out.lt
  clear ltV_4
  have ltV_5:w2.heap.size<w5.heap.size:=V_5.out.lt
  refine wpAny_done (by kernel_rfl) ?_ _
  obtain⟨v0,v1,v2⟩:=(V_5.out).tri
  have s0:w5.cell? ⟨w.heap.size+1,0,none⟩=some (.int .i64 (i:Int)):=S_5.out.cell 0
  have s1:w5.cell? ⟨w.heap.size+1,1,none⟩=some (.int .i64 (j:Int)):=S_5.out.cell 1
  obtain⟨z0,zf0,z1,zf1,z2,zf2⟩:=(Z_5.out).trif
  have gi:w5.cell? ⟨g,i,none⟩=some (.int .i64 x):=by have:=O_5.out.cellAt i (by omega);rw[this,List.getElem?_set_ne (by omega)];simpa[ivs]using HX.out
  have gf:w5.frozen? ⟨g,i,none⟩=false:=O_5.out.frozenAt i
  go_upto_region 8 with fail
  clear gi gf v0 v1 v2 s0 s1 z0 zf0 z1 zf1 z2 zf2
  have y6:=(O_5.out.stored (i) (.int .i64 0)).1
  have hR6:ExtR (g) w5 _:=(O_5.out.stored (i) (.int .i64 0)).2
  have se6:(World.setCell w5 ⟨g,i,none⟩ (.int .i64 0)).heap.size=w5.heap.size:=by simp
  generalize hw6:World.setCell _ _ _=w6 at*
  clear hw6
  have z6:w5.heap.size≤w6.heap.size:=Nat.le_of_eq se6.symm
  have zz6:w6.heap.size≤w5.heap.size:=Nat.le_of_eq se6
  clear se6
  have X_6:=xQ (ExtR.new X_5.out hR6 (by omega))
  have H_6:=xQ (show Blk w6 (w.heap.size) _ _ from(hR6.block _ H_5.out.lt (by first|(simp;done)|(simp;omega))).trans H_5.out)
  have S_6:=xQ (show Blk w6 (w.heap.size+1) _ _ from(hR6.block _ S_5.out.lt (by first|(simp;done)|(simp;omega))).trans S_5.out)
  have Z_6:=xQ (show Blk w6 (w.heap.size+1+1) _ _ from(hR6.block _ Z_5.out.lt (by first|(simp;done)|(simp;omega))).trans Z_5.out)
  have O_6:=xQ (y6)
  have V_6:=xQ (show Blk w6 (w2.heap.size) _ _ from(hR6.block _ V_5.out.lt (by first|(simp;done)|(simp;omega))).trans V_5.out)
  clear X_5 H_5 S_5 Z_5 O_5 V_5 hR6 y6 ltH_5
  have ltH_6:w.heap.size<w6.heap.size:=H_6.out.lt
  clear ltS_5
  have ltS_6:w.heap.size+1<w6.heap.size:=S_6.out.lt
  clear ltZ_5
  have ltZ_6:w.heap.size+1+1<w6.heap.size:=Z_6.out.lt
  clear ltV_5
  have ltV_6:w2.heap.size<w6.heap.size:=V_6.out.lt
  obtain⟨v0,v1,v2⟩:=(V_6.out).tri
  obtain⟨z0,zf0,z1,zf1,z2,zf2⟩:=(Z_6.out).trif
  go_wp2
  have y7:=(((Z_6.out).set 0 (.int .i64 aA)).set 1 (.int .i64 aB)).set 2 (.slice (some ⟨g,0,none⟩) xs.length c2)
  simp only[List.setIfInBounds_toArray,List.set_cons_zero,List.set_cons_succ]at y7
  generalize hw7:World.setCell _ _ _=w7
  rw[hw7]at y7
  have hR7:ExtR (w.heap.size+1+1) w6 w7:=by rw[←hw7];exact(((ExtR.refl (w.heap.size+1+1) w6).setCell (p:=⟨w.heap.size+1+1,0,none⟩) (.inl rfl) (.int .i64 aA)).setCell (p:=⟨w.heap.size+1+1,1,none⟩) (.inl rfl) (.int .i64 aB)).setCell (p:=⟨w.heap.size+1+1,2,none⟩) (.inl rfl) (.slice (some ⟨g,0,none⟩) xs.length c2)
  clear hw7
  have z7:w6.heap.size≤w7.heap.size:=hR7.sz
  have X_7:=xQ (ExtR.new X_6.out hR7 (by omega))
  have H_7:=xQ (show Blk w7 (w.heap.size) _ _ from(hR7.block _ H_6.out.lt (by first|(simp;done)|(simp;omega))).trans H_6.out)
  have S_7:=xQ (show Blk w7 (w.heap.size+1) _ _ from(hR7.block _ S_6.out.lt (by first|(simp;done)|(simp;omega))).trans S_6.out)
  have Z_7:=xQ (y7)
  have O_7:=xQ (O_6.out.kept hR7 (.inr (cY O_6.out Z_6.out (by decide))))
  have V_7:=xQ (show Blk w7 (w2.heap.size) _ _ from(hR7.block _ V_6.out.lt (by first|(simp;done)|(simp;omega))).trans V_6.out)
  clear X_6 H_6 S_6 Z_6 O_6 V_6 hR7 y7 ltH_6
  have ltH_7:w.heap.size<w7.heap.size:=H_7.out.lt
  clear ltS_6
  have ltS_7:w.heap.size+1<w7.heap.size:=S_7.out.lt
  clear ltZ_6
  have ltZ_7:w.heap.size+1+1<w7.heap.size:=Z_7.out.lt
  clear ltV_6
  have ltV_7:w2.heap.size<w7.heap.size:=V_7.out.lt
  clear v0 v1 v2 z0 zf0 z1 zf1 z2 zf2
  obtain⟨y0,y1,y2⟩:=(Z_7.out).tri
  exact bodyPost_ret (v:= .tuple #[.agg #[aA,aB,.slice (some ⟨g,0,none⟩) xs.length c2],.bool true]) (by simp[results,Tryz.results78,go_sem, *]) rfl (dN (by simp) (bG (by rw[←dI,←dI];exact O_7.out) (by omega)) X_7.out)
def bE (aA aB:Int)(xs:List Int)(f t:Int):List Int:=if bC aA aB xs f t then(xs.set t.toNat (xs.getD f.toNat 0)).set f.toNat 0 else xs
theorem cN (aA aB:Int)(xs:List Int)(f t:Int):(bE aA aB xs f t).length=xs.length:=by unfold bE;split<;>simp
theorem jI {aA aB:Int}{xs:List Int}{f t:Int}(h:bC aA aB xs f t=true):aP aA aB xs=true∧0≤f∧f<xs.length∧0≤t∧t<xs.length∧aZ aA f t=1∧0<xs.getD f.toNat 0∧xs.getD t.toNat 0=0∧f≠t:=by
 unfold bC at h
 simp only[Bool.and_eq_true,decide_eq_true_eq]at h
 obtain⟨⟨h1,h2⟩,h3⟩:=h
 obtain⟨k1,k2,k3,k4,k5,k6⟩:=iB h1
 exact⟨k1,k2,k3,k4,k5,k6,h2,h3,fun e=>by subst e;omega⟩
theorem jW (aA aB f t:Int)(p:OA)(n cap:Nat)(xs:List Int)(w:World)(hS:Sl w p n cap 1 (ivs xs))(hok:aP aA aB xs=true):
  Calls Tryz.prog 78 #[aI aA aB p n cap,dK f t] w (cJ aA aB (bE aA aB xs f t) (bC aA aB xs f t) w):=by
 have hl:=hS.ilen
 subst hl
 obtain⟨g1,g2,g3,g4,g5,g6,g7,g8,g9⟩:=bN hok
 have HV:=fun(w':World) (hx:Ext w w')=>fV aA aB p xs.length cap xs w' (hS.ext hx)
 rw[hok]at HV
 have HC:=fun(w':World) (hx:Ext w w')=>eU aA aB p xs.length cap xs w' (by omega) (hS.ext hx)
 have HM:=fun(w':World) (hx:Ext w w')=>aF8 aA aB f t p xs.length cap xs w' (hS.ext hx)
 unfold bE
 cases h:bC aA aB xs f t with
 |false=>rw[h]at HM;exact aD6 aA aB p cap f t xs w g5 g6 HV HC HM
 |true=>
  rw[h]at HM
  obtain⟨k1,k2,k3,k4,k5,k6,k7,k8,k9⟩:=jI h
  have ef:((f.toNat:Nat):Int)=f:=by omega
  have et:((t.toNat:Nat):Int)=t:=by omega
  have hx:xs[f.toNat]? =some (xs.getD f.toNat 0):=by rw[List.getD_eq_getElem?_getD,List.getElem?_eq_getElem (by omega)];rfl
  have hy:xs[t.toNat]? =some (xs.getD t.toNat 0):=by rw[List.getD_eq_getElem?_getD,List.getElem?_eq_getElem (by omega)];rfl
  obtain⟨b,off,x,rfl,hx2,hb,hc⟩:=hS.int_at (k:=f.toNat) (by omega)
  obtain rfl:x=xs.getD f.toNat 0:=by rw[hx]at hx2;injection hx2 with e;exact e.symm
  have:=aAa aA aB cap f.toNat t.toNat b off _ _ xs w g5 g6 (by omega) (by omega) (by omega) hx hy hb hc HV HC (by rw[ef,et];exact HM)
  rw[ef,et]at this
  rw[if_pos rfl]
  exact this
end Go.Proofs.YtgnkoffndhmhpaaGreatDoor
