/-
  Texts of this proof, packed (@packed).
-/
import Derived.Test.YtgnkoffndhmhpaaGreatDoorR6
namespace Go.Proofs.YtgnkoffndhmhpaaGreatDoor
open Go.RowKit
set_option linter.unusedVariables false
set_option linter.unusedSimpArgs false
set_option maxHeartbeats 8000000
set_option maxRecDepth 100000
def cM (aA aB:Int)(xs:List Int)(id:Int):List Int×Bool:=if xs.getD 0 0=0∧1≤id∧aP aA aB (xs.set 0 id)=true then(xs.set 0 id,true)else(xs,false)
def cI (aA aB:Int)(xs:List Int)(i:Int)(w:World)(e:Ending)(w':World):Prop:=
 ∃p cap,e= .returned (.tuple #[aI aA aB p xs.length cap,i])∧w'.ownsRow w.heap.size TI 1 (.slice p xs.length cap) xs.length (ivs xs)∧Ext w w'
theorem dX {aA aB:Int}{p:OA}{n cap:Nat}{xs:List Int}{i:Int}{w w':World}(hn:xs.length=n)(ho:w'.ownsRow w.heap.size TI 1 (.slice p n cap) n (ivs xs))(hx:Ext w w'):cI aA aB xs i w (.returned (.tuple #[aI aA aB p n cap,i])) w':=by
 subst hn;exact⟨p,cap,rfl,ho,hx⟩
theorem xF (aA aB id:Int)(b off cap:Nat)(x:Int)(xs:List Int)(w:World)(hn0:4≤xs.length)(hn:xs.length≤12)(HX0:Hid (xs[0]? =some x)) (hb:b<w.heap.size) (HCX:Hid (w.cell? ⟨b,off,none⟩=some (.int .i64 x))) (hx0:(x !=0)=true)
  (HI:Hid (∀w,Calls Tryz.prog 77 #[(),(),((xs.length:Int)-1:Int)] w fun e w'=>e= .returned (.bool true)∧w=w'))
  (HV:xB 90 #[aI aA aB (some ⟨b,off,none⟩) xs.length cap] w true)
  (HC:Hid (∀w',Ext w w'→Calls Tryz.prog 104 #[aI aA aB (some ⟨b,off,none⟩) xs.length cap] w' (dF aA aB xs w'))):
  Calls Tryz.prog 121 #[aI aA aB (some ⟨b,off,none⟩) xs.length cap,(),id] w (cJ aA aB xs false w):=by
 go_enter Tryz.func121,Tryz.ntmps121
 have X_0:=xQ (Ext.refl w)
 go_wp2_with fail
 refine(HV.out _ (by exact .alloc (.alloc (.refl _) _) _)).mono ?_
 rintro e w1 ⟨rfl,hx1⟩
 have hy1:Ext w w1:=(((Ext.refl _).alloc _).alloc _).trans hx1
 have z1:w.heap.size+2≤w1.heap.size:=by have:=hx1.sz;(try simp at this);omega
 have X_1:=xQ (X_0.out.trans hy1)
 clear X_0
 have H_1:=xQ (show Blk w1 (w.heap.size) TH3 #[aA,aB,.slice (some ⟨b,off,none⟩) xs.length cap] by have:=((Blk.new w TH3 #[aA,aB,.slice (some ⟨b,off,none⟩) xs.length cap]).alloc _).ext hx1;simpa using this)
 have Z_1:=xQ (show Blk w1 (w.heap.size+1) TH3 #[(),(),((),())] by have:=(Blk.new (w.alloc (.cells #[aA,aB,.slice (some ⟨b,off,none⟩) xs.length cap] TH3)) TH3 #[(),(),((),())]).ext hx1;simpa using this)
 clear hy1
 have ltH_1:w.heap.size<w1.heap.size:=H_1.out.lt
 have ltZ_1:w.heap.size+1<w1.heap.size:=Z_1.out.lt
 clear hx1
 obtain⟨c0,c1,c2⟩:=(H_1.out).tri
 go_wp2_with fail
 clear c0 c1 c2
 refine(HC.out _ X_1.out).mono ?_
 rintro e w2 ⟨q,cq,rfl,ho,hx2⟩
 have hy2:Ext w1 w2:=by exact hx2
 have z2:w1.heap.size+0≤w2.heap.size:=by have:=hx2.sz;(try simp at this);omega
 have X_2:=xQ (X_1.out.trans hy2)
 have H_2:=xQ (H_1.out.ext hy2)
 have Z_2:=xQ (Z_1.out.ext hy2)
 clear X_1 H_1 Z_1 hy2 ltH_1
 have ltH_2:w.heap.size<w2.heap.size:=H_2.out.lt
 clear ltZ_1
 have ltZ_2:w.heap.size+1<w2.heap.size:=Z_2.out.lt
 obtain⟨g,rfl,hg1,hg2⟩:=eB ho (by omega)
 have O_2:=xQ (ho)
 clear hx2 ho
 have cx:w2.cell? ⟨b,off,none⟩=some (.int .i64 x):=(Ext.cells X_2.out).1 _ _ hb |>.trans HCX.out
 have lb:b<w2.heap.size:=Nat.lt_of_lt_of_le hb X_2.out.sz
 have lt2:w.heap.size<w2.heap.size:=by omega
 obtain⟨c0,c1,c2⟩:=(H_2.out).tri
 obtain⟨z0,zf0,z1,zf1,z2,zf2⟩:=(Z_2.out).trif
 go_wp2_with ((go_at_call 77;(with_reducible refine(HI.out _).mono ?_);rintro e w9 ⟨rfl,rfl⟩))
 clear cx c0 c1 c2 z0 zf0 z1 zf1 z2 zf2
 have y3:=(((Z_2.out).set 0 (.int .i64 aA)).set 1 (.int .i64 aB)).set 2 (.slice (some ⟨g,0,none⟩) xs.length cq)
 simp only[List.setIfInBounds_toArray,List.set_cons_zero,List.set_cons_succ]at y3
 generalize hw3:World.setCell _ _ _=w3
 rw[hw3]at y3
 have hR3:ExtR (w.heap.size+1) w2 w3:=by rw[←hw3];exact(((ExtR.refl (w.heap.size+1) w2).setCell (p:=⟨w.heap.size+1,0,none⟩) (.inl rfl) (.int .i64 aA)).setCell (p:=⟨w.heap.size+1,1,none⟩) (.inl rfl) (.int .i64 aB)).setCell (p:=⟨w.heap.size+1,2,none⟩) (.inl rfl) (.slice (some ⟨g,0,none⟩) xs.length cq)
 clear hw3
 have z3:w2.heap.size≤w3.heap.size:=hR3.sz
 have X_3:=xQ (ExtR.new X_2.out hR3 (by omega))
 have H_3:=xQ (show Blk w3 (w.heap.size) _ _ from(hR3.block _ H_2.out.lt (by first|(simp;done)|(simp;omega))).trans H_2.out)
 have Z_3:=xQ (y3)
 have O_3:=xQ (O_2.out.kept hR3 (.inr (cY O_2.out Z_2.out (by decide))))
 clear X_2 H_2 Z_2 O_2 hR3 y3 ltH_2
 have ltH_3:w.heap.size<w3.heap.size:=H_3.out.lt
 clear ltZ_2
 have ltZ_3:w.heap.size+1<w3.heap.size:=Z_3.out.lt
 obtain⟨y0,y1,y2⟩:=(Z_3.out).tri
 exact bodyPost_ret (v:= .tuple #[.agg #[aA,aB,.slice (some ⟨g,0,none⟩) xs.length cq],.bool false]) (by simp[results,Tryz.results121,go_sem, *]) rfl (dN (by simp) (bG (O_3.out.alloc _) (by omega)) (X_3.out.alloc _))
theorem aD9 (aA aB id:Int)(b off cap:Nat)(x:Int)(xs:List Int)(w:World)(hn0:4≤xs.length)(hn:xs.length≤12)(HX0:Hid (xs[0]? =some x)) (hb:b<w.heap.size) (HCX:Hid (w.cell? ⟨b,off,none⟩=some (.int .i64 x))) (hx0:(x !=0)=false) (hid:id<1)
  (HI:Hid (∀w,Calls Tryz.prog 77 #[(),(),((xs.length:Int)-1:Int)] w fun e w'=>e= .returned (.bool true)∧w=w'))
  (HV:xB 90 #[aI aA aB (some ⟨b,off,none⟩) xs.length cap] w true)
  (HC:Hid (∀w',Ext w w'→Calls Tryz.prog 104 #[aI aA aB (some ⟨b,off,none⟩) xs.length cap] w' (dF aA aB xs w'))):
  Calls Tryz.prog 121 #[aI aA aB (some ⟨b,off,none⟩) xs.length cap,(),id] w (cJ aA aB xs false w):=by
 go_enter Tryz.func121,Tryz.ntmps121
 have X_0:=xQ (Ext.refl w)
 go_wp2_with fail
 refine(HV.out _ (by exact .alloc (.alloc (.refl _) _) _)).mono ?_
 rintro e w1 ⟨rfl,hx1⟩
 have hy1:Ext w w1:=(((Ext.refl _).alloc _).alloc _).trans hx1
 have z1:w.heap.size+2≤w1.heap.size:=by have:=hx1.sz;(try simp at this);omega
 have X_1:=xQ (X_0.out.trans hy1)
 clear X_0
 have H_1:=xQ (show Blk w1 (w.heap.size) TH3 #[aA,aB,.slice (some ⟨b,off,none⟩) xs.length cap] by have:=((Blk.new w TH3 #[aA,aB,.slice (some ⟨b,off,none⟩) xs.length cap]).alloc _).ext hx1;simpa using this)
 have Z_1:=xQ (show Blk w1 (w.heap.size+1) TH3 #[(),(),((),())] by have:=(Blk.new (w.alloc (.cells #[aA,aB,.slice (some ⟨b,off,none⟩) xs.length cap] TH3)) TH3 #[(),(),((),())]).ext hx1;simpa using this)
 clear hy1
 have ltH_1:w.heap.size<w1.heap.size:=H_1.out.lt
 have ltZ_1:w.heap.size+1<w1.heap.size:=Z_1.out.lt
 clear hx1
 obtain⟨c0,c1,c2⟩:=(H_1.out).tri
 go_wp2_with fail
 clear c0 c1 c2
 refine(HC.out _ X_1.out).mono ?_
 rintro e w2 ⟨q,cq,rfl,ho,hx2⟩
 have hy2:Ext w1 w2:=by exact hx2
 have z2:w1.heap.size+0≤w2.heap.size:=by have:=hx2.sz;(try simp at this);omega
 have X_2:=xQ (X_1.out.trans hy2)
 have H_2:=xQ (H_1.out.ext hy2)
 have Z_2:=xQ (Z_1.out.ext hy2)
 clear X_1 H_1 Z_1 hy2 ltH_1
 have ltH_2:w.heap.size<w2.heap.size:=H_2.out.lt
 clear ltZ_1
 have ltZ_2:w.heap.size+1<w2.heap.size:=Z_2.out.lt
 obtain⟨g,rfl,hg1,hg2⟩:=eB ho (by omega)
 have O_2:=xQ (ho)
 clear hx2 ho
 have cx:w2.cell? ⟨b,off,none⟩=some (.int .i64 x):=(Ext.cells X_2.out).1 _ _ hb |>.trans HCX.out
 have lb:b<w2.heap.size:=Nat.lt_of_lt_of_le hb X_2.out.sz
 have lt2:w.heap.size<w2.heap.size:=by omega
 obtain⟨c0,c1,c2⟩:=(H_2.out).tri
 obtain⟨z0,zf0,z1,zf1,z2,zf2⟩:=(Z_2.out).trif
 go_wp2_with ((go_at_call 77;(with_reducible refine(HI.out _).mono ?_);rintro e w9 ⟨rfl,rfl⟩))
 clear cx c0 c1 c2 z0 zf0 z1 zf1 z2 zf2
 have y3:=(((Z_2.out).set 0 (.int .i64 aA)).set 1 (.int .i64 aB)).set 2 (.slice (some ⟨g,0,none⟩) xs.length cq)
 simp only[List.setIfInBounds_toArray,List.set_cons_zero,List.set_cons_succ]at y3
 generalize hw3:World.setCell _ _ _=w3
 rw[hw3]at y3
 have hR3:ExtR (w.heap.size+1) w2 w3:=by rw[←hw3];exact(((ExtR.refl (w.heap.size+1) w2).setCell (p:=⟨w.heap.size+1,0,none⟩) (.inl rfl) (.int .i64 aA)).setCell (p:=⟨w.heap.size+1,1,none⟩) (.inl rfl) (.int .i64 aB)).setCell (p:=⟨w.heap.size+1,2,none⟩) (.inl rfl) (.slice (some ⟨g,0,none⟩) xs.length cq)
 clear hw3
 have z3:w2.heap.size≤w3.heap.size:=hR3.sz
 have X_3:=xQ (ExtR.new X_2.out hR3 (by omega))
 have H_3:=xQ (show Blk w3 (w.heap.size) _ _ from(hR3.block _ H_2.out.lt (by first|(simp;done)|(simp;omega))).trans H_2.out)
 have Z_3:=xQ (y3)
 have O_3:=xQ (O_2.out.kept hR3 (.inr (cY O_2.out Z_2.out (by decide))))
 clear X_2 H_2 Z_2 O_2 hR3 y3 ltH_2
 have ltH_3:w.heap.size<w3.heap.size:=H_3.out.lt
 clear ltZ_2
 have ltZ_3:w.heap.size+1<w3.heap.size:=Z_3.out.lt
 obtain⟨y0,y1,y2⟩:=(Z_3.out).tri
 exact bodyPost_ret (v:= .tuple #[.agg #[aA,aB,.slice (some ⟨g,0,none⟩) xs.length cq],.bool false]) (by simp[results,Tryz.results121,go_sem, *]) rfl (dN (by simp) (bG (O_3.out.alloc _) (by omega)) (X_3.out.alloc _))
theorem aAh (aA aB id:Int)(b off cap:Nat)(x:Int)(xs:List Int)(w:World)(hn0:4≤xs.length)(hn:xs.length≤12)(HX0:Hid (xs[0]? =some x)) (hb:b<w.heap.size) (HCX:Hid (w.cell? ⟨b,off,none⟩=some (.int .i64 x))) (hx0:(x !=0)=false) (hid:1≤id)
  (HI:Hid (∀w,Calls Tryz.prog 77 #[(),(),((xs.length:Int)-1:Int)] w fun e w'=>e= .returned (.bool true)∧w=w'))
  (HV2:Hid (∀w' q c,Sl w' q xs.length c 1 (ivs (xs.set 0 id))→Calls Tryz.prog 90 #[aI aA aB q xs.length c] w' fun e w''=>e= .returned (.bool true)∧Ext w' w''))
  (HV:xB 90 #[aI aA aB (some ⟨b,off,none⟩) xs.length cap] w true)
  (HC:Hid (∀w',Ext w w'→Calls Tryz.prog 104 #[aI aA aB (some ⟨b,off,none⟩) xs.length cap] w' (dF aA aB xs w'))):
  Calls Tryz.prog 121 #[aI aA aB (some ⟨b,off,none⟩) xs.length cap,(),id] w (cJ aA aB (xs.set 0 id) true w):=by
 have hid2:decide (id<1)=false:=by simp;omega
 go_enter Tryz.func121,Tryz.ntmps121
 have X_0:=xQ (Ext.refl w)
 go_wp2_with fail
 refine(HV.out _ (by exact .alloc (.alloc (.refl _) _) _)).mono ?_
 rintro e w1 ⟨rfl,hx1⟩
 have hy1:Ext w w1:=(((Ext.refl _).alloc _).alloc _).trans hx1
 have z1:w.heap.size+2≤w1.heap.size:=by have:=hx1.sz;(try simp at this);omega
 have X_1:=xQ (X_0.out.trans hy1)
 clear X_0
 have H_1:=xQ (show Blk w1 (w.heap.size) TH3 #[aA,aB,.slice (some ⟨b,off,none⟩) xs.length cap] by have:=((Blk.new w TH3 #[aA,aB,.slice (some ⟨b,off,none⟩) xs.length cap]).alloc _).ext hx1;simpa using this)
 have Z_1:=xQ (show Blk w1 (w.heap.size+1) TH3 #[(),(),((),())] by have:=(Blk.new (w.alloc (.cells #[aA,aB,.slice (some ⟨b,off,none⟩) xs.length cap] TH3)) TH3 #[(),(),((),())]).ext hx1;simpa using this)
 clear hy1
 have ltH_1:w.heap.size<w1.heap.size:=H_1.out.lt
 have ltZ_1:w.heap.size+1<w1.heap.size:=Z_1.out.lt
 clear hx1
 obtain⟨c0,c1,c2⟩:=(H_1.out).tri
 go_wp2_with fail
 clear c0 c1 c2
 refine(HC.out _ X_1.out).mono ?_
 rintro e w2 ⟨q,cq,rfl,ho,hx2⟩
 have hy2:Ext w1 w2:=by exact hx2
 have z2:w1.heap.size+0≤w2.heap.size:=by have:=hx2.sz;(try simp at this);omega
 have X_2:=xQ (X_1.out.trans hy2)
 have H_2:=xQ (H_1.out.ext hy2)
 have Z_2:=xQ (Z_1.out.ext hy2)
 clear X_1 H_1 Z_1 hy2 ltH_1
 have ltH_2:w.heap.size<w2.heap.size:=H_2.out.lt
 clear ltZ_1
 have ltZ_2:w.heap.size+1<w2.heap.size:=Z_2.out.lt
 obtain⟨g,rfl,hg1,hg2⟩:=eB ho (by omega)
 have O_2:=xQ (ho)
 clear hx2 ho
 have cx:w2.cell? ⟨b,off,none⟩=some (.int .i64 x):=(Ext.cells X_2.out).1 _ _ hb |>.trans HCX.out
 have lb:b<w2.heap.size:=Nat.lt_of_lt_of_le hb X_2.out.sz
 have lt2:w.heap.size<w2.heap.size:=by omega
 obtain⟨c0,c1,c2⟩:=(H_2.out).tri
 have ow0:w2.cell? ⟨g,0,none⟩=some (.int .i64 x):=by have:=O_2.out.cellAt 0 (by omega);rw[this];simpa[ivs]using HX0.out
 have ow1:w2.frozen? ⟨g,0,none⟩=false:=O_2.out.frozenAt 0
 have gne:g≠w2.heap.size:=by omega
 go_upto_region 7 with((go_at_call 77;(with_reducible refine(HI.out _).mono ?_);rintro e w9 ⟨rfl,rfl⟩))
 clear cx ow0 ow1 c0 c1 c2
 have y3:=(O_2.out.stored (0) (.int .i64 id)).1
 have hR3:ExtR (g) w2 _:=(O_2.out.stored (0) (.int .i64 id)).2
 have se3:(World.setCell w2 ⟨g,0,none⟩ (.int .i64 id)).heap.size=w2.heap.size:=by simp
 generalize hw3:World.setCell _ _ _=w3 at*
 rw[←se3]
 clear hw3
 have z3:w2.heap.size≤w3.heap.size:=Nat.le_of_eq se3.symm
 have zz3:w3.heap.size≤w2.heap.size:=Nat.le_of_eq se3
 clear se3
 have X_3:=xQ (ExtR.new X_2.out hR3 (by omega))
 have H_3:=xQ (show Blk w3 (w.heap.size) _ _ from(hR3.block _ H_2.out.lt (by first|(simp;done)|(simp;omega))).trans H_2.out)
 have Z_3:=xQ (show Blk w3 (w.heap.size+1) _ _ from(hR3.block _ Z_2.out.lt (by first|(simp;done)|(simp;omega))).trans Z_2.out)
 have O_3:=xQ (y3)
 clear X_2 H_2 Z_2 O_2 hR3 y3 ltH_2
 have ltH_3:w.heap.size<w3.heap.size:=H_3.out.lt
 clear ltZ_2
 have ltZ_3:w.heap.size+1<w3.heap.size:=Z_3.out.lt
 go_wp2_with fail
 refine(HV2.out (w3.alloc (.cells #[aA,aB,.slice (some ⟨g,0,none⟩) xs.length cq] TH3)) _ _ (by rw[←dI];exact Sl.own (O_3.out.alloc _))).mono ?_
 rintro e w4 ⟨rfl,hx4⟩
 have hy4:Ext w3 w4:=((Ext.refl _).alloc _).trans hx4
 have z4:w3.heap.size+1≤w4.heap.size:=by have:=hx4.sz;(try simp at this);omega
 have X_4:=xQ (X_3.out.trans hy4)
 have H_4:=xQ (H_3.out.ext hy4)
 have Z_4:=xQ (Z_3.out.ext hy4)
 have O_4:=xQ (bB O_3.out hy4)
 clear X_3 H_3 Z_3 O_3
 have V_4:=xQ (show Blk w4 (w3.heap.size) TH3 #[aA,aB,.slice (some ⟨g,0,none⟩) xs.length cq] by have:=(Blk.new w3 TH3 #[aA,aB,.slice (some ⟨g,0,none⟩) xs.length cq]).ext hx4;simpa using this)
 clear hy4 ltH_3
 have ltH_4:w.heap.size<w4.heap.size:=H_4.out.lt
 clear ltZ_3
 have ltZ_4:w.heap.size+1<w4.heap.size:=Z_4.out.lt
 have ltV_4:w3.heap.size<w4.heap.size:=V_4.out.lt
 clear hx4
 obtain⟨v0,v1,v2⟩:=(V_4.out).tri
 obtain⟨z0,zf0,z1,zf1,z2,zf2⟩:=(Z_4.out).trif
 go_wp2
 have y5:=(((Z_4.out).set 0 (.int .i64 aA)).set 1 (.int .i64 aB)).set 2 (.slice (some ⟨g,0,none⟩) xs.length cq)
 simp only[List.setIfInBounds_toArray,List.set_cons_zero,List.set_cons_succ]at y5
 generalize hw5:World.setCell _ _ _=w5
 rw[hw5]at y5
 have hR5:ExtR (w.heap.size+1) w4 w5:=by rw[←hw5];exact(((ExtR.refl (w.heap.size+1) w4).setCell (p:=⟨w.heap.size+1,0,none⟩) (.inl rfl) (.int .i64 aA)).setCell (p:=⟨w.heap.size+1,1,none⟩) (.inl rfl) (.int .i64 aB)).setCell (p:=⟨w.heap.size+1,2,none⟩) (.inl rfl) (.slice (some ⟨g,0,none⟩) xs.length cq)
 clear hw5
 have z5:w4.heap.size≤w5.heap.size:=hR5.sz
 have X_5:=xQ (ExtR.new X_4.out hR5 (by omega))
 have H_5:=xQ (show Blk w5 (w.heap.size) _ _ from(hR5.block _ H_4.out.lt (by first|(simp;done)|(simp;omega))).trans H_4.out)
 have Z_5:=xQ (y5)
 have O_5:=xQ (O_4.out.kept hR5 (.inr (cY O_4.out Z_4.out (by decide))))
 have V_5:=xQ (show Blk w5 (w3.heap.size) _ _ from(hR5.block _ V_4.out.lt (by first|(simp;done)|(simp;omega))).trans V_4.out)
 clear X_4 H_4 Z_4 O_4 V_4 hR5 y5 ltH_4
 have ltH_5:w.heap.size<w5.heap.size:=H_5.out.lt
 clear ltZ_4
 have ltZ_5:w.heap.size+1<w5.heap.size:=Z_5.out.lt
 clear ltV_4
 have ltV_5:w3.heap.size<w5.heap.size:=V_5.out.lt
 clear v0 v1 v2 z0 zf0 z1 zf1 z2 zf2
 obtain⟨y0,y1,y2⟩:=(Z_5.out).tri
 exact bodyPost_ret (v:= .tuple #[.agg #[aA,aB,.slice (some ⟨g,0,none⟩) xs.length cq],.bool true]) (by simp[results,Tryz.results121,go_sem, *]) rfl (dN (by simp) (bG (by rw[←dI];exact O_5.out) (by omega)) X_5.out)
theorem aAi (aA aB id:Int)(b off cap:Nat)(x:Int)(xs:List Int)(w:World)(hn0:4≤xs.length)(hn:xs.length≤12)(HX0:Hid (xs[0]? =some x)) (hb:b<w.heap.size) (HCX:Hid (w.cell? ⟨b,off,none⟩=some (.int .i64 x))) (hx0:(x !=0)=false) (hid:1≤id)
  (HI:Hid (∀w,Calls Tryz.prog 77 #[(),(),((xs.length:Int)-1:Int)] w fun e w'=>e= .returned (.bool true)∧w=w'))
  (HV2:Hid (∀w' q c,Sl w' q xs.length c 1 (ivs (xs.set 0 id))→Calls Tryz.prog 90 #[aI aA aB q xs.length c] w' fun e w''=>e= .returned (.bool false)∧Ext w' w''))
  (HV:xB 90 #[aI aA aB (some ⟨b,off,none⟩) xs.length cap] w true)
  (HC:Hid (∀w',Ext w w'→Calls Tryz.prog 104 #[aI aA aB (some ⟨b,off,none⟩) xs.length cap] w' (dF aA aB xs w'))):
  Calls Tryz.prog 121 #[aI aA aB (some ⟨b,off,none⟩) xs.length cap,(),id] w (cJ aA aB xs false w):=by
 have hid2:decide (id<1)=false:=by simp;omega
 go_enter Tryz.func121,Tryz.ntmps121
 have X_0:=xQ (Ext.refl w)
 go_wp2_with fail
 refine(HV.out _ (by exact .alloc (.alloc (.refl _) _) _)).mono ?_
 rintro e w1 ⟨rfl,hx1⟩
 have hy1:Ext w w1:=(((Ext.refl _).alloc _).alloc _).trans hx1
 have z1:w.heap.size+2≤w1.heap.size:=by have:=hx1.sz;(try simp at this);omega
 have X_1:=xQ (X_0.out.trans hy1)
 clear X_0
 have H_1:=xQ (show Blk w1 (w.heap.size) TH3 #[aA,aB,.slice (some ⟨b,off,none⟩) xs.length cap] by have:=((Blk.new w TH3 #[aA,aB,.slice (some ⟨b,off,none⟩) xs.length cap]).alloc _).ext hx1;simpa using this)
 have Z_1:=xQ (show Blk w1 (w.heap.size+1) TH3 #[(),(),((),())] by have:=(Blk.new (w.alloc (.cells #[aA,aB,.slice (some ⟨b,off,none⟩) xs.length cap] TH3)) TH3 #[(),(),((),())]).ext hx1;simpa using this)
 clear hy1
 have ltH_1:w.heap.size<w1.heap.size:=H_1.out.lt
 have ltZ_1:w.heap.size+1<w1.heap.size:=Z_1.out.lt
 clear hx1
 obtain⟨c0,c1,c2⟩:=(H_1.out).tri
 go_wp2_with fail
 clear c0 c1 c2
 refine(HC.out _ X_1.out).mono ?_
 rintro e w2 ⟨q,cq,rfl,ho,hx2⟩
 have hy2:Ext w1 w2:=by exact hx2
 have z2:w1.heap.size+0≤w2.heap.size:=by have:=hx2.sz;(try simp at this);omega
 have X_2:=xQ (X_1.out.trans hy2)
 have H_2:=xQ (H_1.out.ext hy2)
 have Z_2:=xQ (Z_1.out.ext hy2)
 clear X_1 H_1 Z_1 hy2 ltH_1
 have ltH_2:w.heap.size<w2.heap.size:=H_2.out.lt
 clear ltZ_1
 have ltZ_2:w.heap.size+1<w2.heap.size:=Z_2.out.lt
 obtain⟨g,rfl,hg1,hg2⟩:=eB ho (by omega)
 have O_2:=xQ (ho)
 clear hx2 ho
 have cx:w2.cell? ⟨b,off,none⟩=some (.int .i64 x):=(Ext.cells X_2.out).1 _ _ hb |>.trans HCX.out
 have lb:b<w2.heap.size:=Nat.lt_of_lt_of_le hb X_2.out.sz
 have lt2:w.heap.size<w2.heap.size:=by omega
 obtain⟨c0,c1,c2⟩:=(H_2.out).tri
 have ow0:w2.cell? ⟨g,0,none⟩=some (.int .i64 x):=by have:=O_2.out.cellAt 0 (by omega);rw[this];simpa[ivs]using HX0.out
 have ow1:w2.frozen? ⟨g,0,none⟩=false:=O_2.out.frozenAt 0
 have gne:g≠w2.heap.size:=by omega
 go_upto_region 7 with((go_at_call 77;(with_reducible refine(HI.out _).mono ?_);rintro e w9 ⟨rfl,rfl⟩))
 clear cx ow0 ow1 c0 c1 c2
 have y3:=(O_2.out.stored (0) (.int .i64 id)).1
 have hR3:ExtR (g) w2 _:=(O_2.out.stored (0) (.int .i64 id)).2
 have se3:(World.setCell w2 ⟨g,0,none⟩ (.int .i64 id)).heap.size=w2.heap.size:=by simp
 generalize hw3:World.setCell _ _ _=w3 at*
 rw[←se3]
 clear hw3
 have z3:w2.heap.size≤w3.heap.size:=Nat.le_of_eq se3.symm
 have zz3:w3.heap.size≤w2.heap.size:=Nat.le_of_eq se3
 clear se3
 have X_3:=xQ (ExtR.new X_2.out hR3 (by omega))
 have H_3:=xQ (show Blk w3 (w.heap.size) _ _ from(hR3.block _ H_2.out.lt (by first|(simp;done)|(simp;omega))).trans H_2.out)
 have Z_3:=xQ (show Blk w3 (w.heap.size+1) _ _ from(hR3.block _ Z_2.out.lt (by first|(simp;done)|(simp;omega))).trans Z_2.out)
 have O_3:=xQ (y3)
 clear X_2 H_2 Z_2 O_2 hR3 y3 ltH_2
 have ltH_3:w.heap.size<w3.heap.size:=H_3.out.lt
 clear ltZ_2
 have ltZ_3:w.heap.size+1<w3.heap.size:=Z_3.out.lt
 go_wp2_with fail
 refine(HV2.out (w3.alloc (.cells #[aA,aB,.slice (some ⟨g,0,none⟩) xs.length cq] TH3)) _ _ (by rw[←dI];exact Sl.own (O_3.out.alloc _))).mono ?_
 rintro e w4 ⟨rfl,hx4⟩
 have hy4:Ext w3 w4:=((Ext.refl _).alloc _).trans hx4
 have z4:w3.heap.size+1≤w4.heap.size:=by have:=hx4.sz;(try simp at this);omega
 have X_4:=xQ (X_3.out.trans hy4)
 have H_4:=xQ (H_3.out.ext hy4)
 have Z_4:=xQ (Z_3.out.ext hy4)
 have O_4:=xQ (bB O_3.out hy4)
 clear X_3 H_3 Z_3 O_3
 have V_4:=xQ (show Blk w4 (w3.heap.size) TH3 #[aA,aB,.slice (some ⟨g,0,none⟩) xs.length cq] by have:=(Blk.new w3 TH3 #[aA,aB,.slice (some ⟨g,0,none⟩) xs.length cq]).ext hx4;simpa using this)
 clear hy4 ltH_3
 have ltH_4:w.heap.size<w4.heap.size:=H_4.out.lt
 clear ltZ_3
 have ltZ_4:w.heap.size+1<w4.heap.size:=Z_4.out.lt
 have ltV_4:w3.heap.size<w4.heap.size:=V_4.out.lt
 clear hx4
 obtain⟨h0,h1,h2⟩:=(H_4.out).tri
 go_wp2_with fail
 clear h0 h1 h2
 refine(HC.out _ X_4.out).mono ?_
 rintro e w5 ⟨q5,c5,rfl,o5,hx5⟩
 have hy5:Ext w4 w5:=by exact hx5
 have z5:w4.heap.size+0≤w5.heap.size:=by have:=hx5.sz;(try simp at this);omega
 have X_5:=xQ (X_4.out.trans hy5)
 have H_5:=xQ (H_4.out.ext hy5)
 have Z_5:=xQ (Z_4.out.ext hy5)
 have O_5:=xQ (bB O_4.out hy5)
 have V_5:=xQ (V_4.out.ext hy5)
 clear X_4 H_4 Z_4 O_4 V_4 hy5 ltH_4
 have ltH_5:w.heap.size<w5.heap.size:=H_5.out.lt
 clear ltZ_4
 have ltZ_5:w.heap.size+1<w5.heap.size:=Z_5.out.lt
 clear ltV_4
 have ltV_5:w3.heap.size<w5.heap.size:=V_5.out.lt
 have O5_5:=xQ (o5)
 clear hx5 o5 O_5
 obtain⟨z0,zf0,z1,zf1,z2,zf2⟩:=(Z_5.out).trif
 go_wp2
 have y6:=(((Z_5.out).set 0 (.int .i64 aA)).set 1 (.int .i64 aB)).set 2 (.slice q5 xs.length c5)
 simp only[List.setIfInBounds_toArray,List.set_cons_zero,List.set_cons_succ]at y6
 generalize hw6:World.setCell _ _ _=w6
 rw[hw6]at y6
 have hR6:ExtR (w.heap.size+1) w5 w6:=by rw[←hw6];exact(((ExtR.refl (w.heap.size+1) w5).setCell (p:=⟨w.heap.size+1,0,none⟩) (.inl rfl) (.int .i64 aA)).setCell (p:=⟨w.heap.size+1,1,none⟩) (.inl rfl) (.int .i64 aB)).setCell (p:=⟨w.heap.size+1,2,none⟩) (.inl rfl) (.slice q5 xs.length c5)
 clear hw6
 have z6:w5.heap.size≤w6.heap.size:=hR6.sz
 have X_6:=xQ (ExtR.new X_5.out hR6 (by omega))
 have H_6:=xQ (show Blk w6 (w.heap.size) _ _ from(hR6.block _ H_5.out.lt (by first|(simp;done)|(simp;omega))).trans H_5.out)
 have Z_6:=xQ (y6)
 have V_6:=xQ (show Blk w6 (w3.heap.size) _ _ from(hR6.block _ V_5.out.lt (by first|(simp;done)|(simp;omega))).trans V_5.out)
 have O5_6:=xQ (O5_5.out.kept hR6 (.inr (cY O5_5.out Z_5.out (by decide))))
 clear X_5 H_5 Z_5 V_5 O5_5 hR6 y6 ltH_5
 have ltH_6:w.heap.size<w6.heap.size:=H_6.out.lt
 clear ltZ_5
 have ltZ_6:w.heap.size+1<w6.heap.size:=Z_6.out.lt
 clear ltV_5
 have ltV_6:w3.heap.size<w6.heap.size:=V_6.out.lt
 clear z0 zf0 z1 zf1 z2 zf2
 obtain⟨y0,y1,y2⟩:=(Z_6.out).tri
 exact bodyPost_ret (v:= .tuple #[.agg #[aA,aB,.slice q5 xs.length c5],.bool false]) (by simp[results,Tryz.results121,go_sem, *]) rfl (dN (by simp) (bG (by exact O5_6.out) (by omega)) X_6.out)
theorem aFf (aA aB:Int)(b off cap:Nat)(x:Int)(xs:List Int)(w:World)(hn0:4≤xs.length)(hn:xs.length≤12)(HX0:Hid (xs[0]? =some x)) (hb:b<w.heap.size) (HCX:Hid (w.cell? ⟨b,off,none⟩=some (.int .i64 x)))
  (HI:Hid (∀w,Calls Tryz.prog 77 #[(),(),((xs.length:Int)-1:Int)] w fun e w'=>e= .returned (.bool true)∧w=w'))
  (HV:xB 90 #[aI aA aB (some ⟨b,off,none⟩) xs.length cap] w true)
  (HC:Hid (∀w',Ext w w'→Calls Tryz.prog 104 #[aI aA aB (some ⟨b,off,none⟩) xs.length cap] w' (dF aA aB xs w'))):
  Calls Tryz.prog 124 #[aI aA aB (some ⟨b,off,none⟩) xs.length cap,()] w (cI aA aB (xs.set 0 0) x w):=by
 go_enter Tryz.func124,Tryz.ntmps124
 have X_0:=xQ (Ext.refl w)
 go_wp2_with fail
 refine(HV.out _ (by exact .alloc (.alloc (.refl _) _) _)).mono ?_
 rintro e w1 ⟨rfl,hx1⟩
 have hy1:Ext w w1:=(((Ext.refl _).alloc _).alloc _).trans hx1
 have z1:w.heap.size+2≤w1.heap.size:=by have:=hx1.sz;(try simp at this);omega
 have X_1:=xQ (X_0.out.trans hy1)
 clear X_0
 have H_1:=xQ (show Blk w1 (w.heap.size) TH3 #[aA,aB,.slice (some ⟨b,off,none⟩) xs.length cap] by have:=((Blk.new w TH3 #[aA,aB,.slice (some ⟨b,off,none⟩) xs.length cap]).alloc _).ext hx1;simpa using this)
 have Z_1:=xQ (show Blk w1 (w.heap.size+1) TH3 #[(),(),((),())] by have:=(Blk.new (w.alloc (.cells #[aA,aB,.slice (some ⟨b,off,none⟩) xs.length cap] TH3)) TH3 #[(),(),((),())]).ext hx1;simpa using this)
 clear hy1
 have ltH_1:w.heap.size<w1.heap.size:=H_1.out.lt
 have ltZ_1:w.heap.size+1<w1.heap.size:=Z_1.out.lt
 clear hx1
 obtain⟨c0,c1,c2⟩:=(H_1.out).tri
 go_wp2_with fail
 clear c0 c1 c2
 refine(HC.out _ X_1.out).mono ?_
 rintro e w2 ⟨q,cq,rfl,ho,hx2⟩
 have hy2:Ext w1 w2:=by exact hx2
 have z2:w1.heap.size+0≤w2.heap.size:=by have:=hx2.sz;(try simp at this);omega
 have X_2:=xQ (X_1.out.trans hy2)
 have H_2:=xQ (H_1.out.ext hy2)
 have Z_2:=xQ (Z_1.out.ext hy2)
 clear X_1 H_1 Z_1 hy2 ltH_1
 have ltH_2:w.heap.size<w2.heap.size:=H_2.out.lt
 clear ltZ_1
 have ltZ_2:w.heap.size+1<w2.heap.size:=Z_2.out.lt
 obtain⟨g,rfl,hg1,hg2⟩:=eB ho (by omega)
 have O_2:=xQ (ho)
 clear hx2 ho
 have cx:w2.cell? ⟨b,off,none⟩=some (.int .i64 x):=(Ext.cells X_2.out).1 _ _ hb |>.trans HCX.out
 have lb:b<w2.heap.size:=Nat.lt_of_lt_of_le hb X_2.out.sz
 have lt2:w.heap.size<w2.heap.size:=by omega
 obtain⟨c0,c1,c2⟩:=(H_2.out).tri
 have ow0:w2.cell? ⟨g,0,none⟩=some (.int .i64 x):=by have:=O_2.out.cellAt 0 (by omega);rw[this];simpa[ivs]using HX0.out
 have ow1:w2.frozen? ⟨g,0,none⟩=false:=O_2.out.frozenAt 0
 have gne:g≠w2.heap.size:=by omega
 go_upto_region 7 with((go_at_call 77;(with_reducible refine(HI.out _).mono ?_);rintro e w9 ⟨rfl,rfl⟩))
 clear cx ow0 ow1 c0 c1 c2
 have y3:=(O_2.out.stored (0) (.int .i64 0)).1
 have hR3:ExtR (g) w2 _:=(O_2.out.stored (0) (.int .i64 0)).2
 have se3:(World.setCell w2 ⟨g,0,none⟩ (.int .i64 0)).heap.size=w2.heap.size:=by simp
 generalize hw3:World.setCell _ _ _=w3 at*
 rw[←se3]
 clear hw3
 have z3:w2.heap.size≤w3.heap.size:=Nat.le_of_eq se3.symm
 have zz3:w3.heap.size≤w2.heap.size:=Nat.le_of_eq se3
 clear se3
 have X_3:=xQ (ExtR.new X_2.out hR3 (by omega))
 have H_3:=xQ (show Blk w3 (w.heap.size) _ _ from(hR3.block _ H_2.out.lt (by first|(simp;done)|(simp;omega))).trans H_2.out)
 have Z_3:=xQ (show Blk w3 (w.heap.size+1) _ _ from(hR3.block _ Z_2.out.lt (by first|(simp;done)|(simp;omega))).trans Z_2.out)
 have O_3:=xQ (y3)
 clear X_2 H_2 Z_2 O_2 hR3 y3 ltH_2
 have ltH_3:w.heap.size<w3.heap.size:=H_3.out.lt
 clear ltZ_2
 have ltZ_3:w.heap.size+1<w3.heap.size:=Z_3.out.lt
 have hV:Blk (w3.alloc (.cells #[aA,aB,.slice (some ⟨g,0,none⟩) xs.length cq] TH3)) w3.heap.size TH3 #[aA,aB,.slice (some ⟨g,0,none⟩) xs.length cq]:=Blk.new _ _ _
 generalize hw4:w3.alloc (.cells #[aA,aB,.slice (some ⟨g,0,none⟩) xs.length cq] TH3)=w4 at*
 have e4:Ext w3 w4:=by rw[←hw4];exact(Ext.refl _).alloc _
 clear hw4
 have X_4:=xQ (X_3.out.trans e4)
 clear X_3
 have H_4:=xQ (H_3.out.ext e4)
 clear H_3
 have Z_4:=xQ (Z_3.out.ext e4)
 clear Z_3
 have O_4:=xQ (bB O_3.out e4)
 clear O_3
 have V_4:=xQ hV
 clear hV e4 ltH_3
 have ltH_4:w.heap.size<w4.heap.size:=H_4.out.lt
 clear ltZ_3
 have ltZ_4:w.heap.size+1<w4.heap.size:=Z_4.out.lt
 have ltV_4:w3.heap.size<w4.heap.size:=V_4.out.lt
 have cx:w4.cell? ⟨b,off,none⟩=some (.int .i64 x):=(Ext.cells X_4.out).1 _ _ hb |>.trans HCX.out
 have a3n:0<xs.length:=by omega
 have a3:(0:Int)<(xs.length:Int):=by omega
 have n1: ¬(w3.heap.size=w.heap.size+1):=by omega
 have n2: ¬(w.heap.size+1=w3.heap.size):=by omega
 have n3: ¬(b=w.heap.size+1):=by omega
 have n4: ¬(w.heap.size+1=b):=by omega
 obtain⟨v0,v1,v2⟩:=(V_4.out).tri
 have c2:w4.cell? ⟨w.heap.size,2,none⟩=some (.slice (some ⟨b,off,none⟩) xs.length cap):=H_4.out.cell 2
 obtain⟨z0,zf0,z1,zf1,z2,zf2⟩:=(Z_4.out).trif
 go_region_held3 (fun w'=>w'.cell? ⟨w3.heap.size,0,none⟩=some (.int .i64 aA)∧w'.cell? ⟨w3.heap.size,1,none⟩=some (.int .i64 aB)∧w'.cell? ⟨w3.heap.size,2,none⟩=some (.slice (some ⟨g,0,none⟩) xs.length cq)∧w'.cell? ⟨w.heap.size,2,none⟩=some (.slice (some ⟨b,off,none⟩) xs.length cap)∧w'.cell? ⟨b,off,none⟩=some (.int .i64 x)) (first|(refine⟨?_,?_,?_,?_,?_⟩<;>assumption)|go_keep) (fail)
 go_wp2
 have y5:=(((Z_4.out).set 0 (.int .i64 aA)).set 1 (.int .i64 aB)).set 2 (.slice (some ⟨g,0,none⟩) xs.length cq)
 simp only[List.setIfInBounds_toArray,List.set_cons_zero,List.set_cons_succ]at y5
 generalize hw5:World.setCell _ _ _=w5
 rw[hw5]at y5
 have hR5:ExtR (w.heap.size+1) w4 w5:=by rw[←hw5];exact(((ExtR.refl (w.heap.size+1) w4).setCell (p:=⟨w.heap.size+1,0,none⟩) (.inl rfl) (.int .i64 aA)).setCell (p:=⟨w.heap.size+1,1,none⟩) (.inl rfl) (.int .i64 aB)).setCell (p:=⟨w.heap.size+1,2,none⟩) (.inl rfl) (.slice (some ⟨g,0,none⟩) xs.length cq)
 clear hw5
 have z5:w4.heap.size≤w5.heap.size:=hR5.sz
 have X_5:=xQ (ExtR.new X_4.out hR5 (by omega))
 have H_5:=xQ (show Blk w5 (w.heap.size) _ _ from(hR5.block _ H_4.out.lt (by first|(simp;done)|(simp;omega))).trans H_4.out)
 have Z_5:=xQ (y5)
 have O_5:=xQ (O_4.out.kept hR5 (.inr (cY O_4.out Z_4.out (by decide))))
 have V_5:=xQ (show Blk w5 (w3.heap.size) _ _ from(hR5.block _ V_4.out.lt (by first|(simp;done)|(simp;omega))).trans V_4.out)
 clear X_4 H_4 Z_4 O_4 V_4 hR5 y5 ltH_4
 have ltH_5:w.heap.size<w5.heap.size:=H_5.out.lt
 clear ltZ_4
 have ltZ_5:w.heap.size+1<w5.heap.size:=Z_5.out.lt
 clear ltV_4
 have ltV_5:w3.heap.size<w5.heap.size:=V_5.out.lt
 clear cx v0 v1 v2 c2 z0 zf0 z1 zf1 z2 zf2
 obtain⟨y0,y1,y2⟩:=(Z_5.out).tri
 exact bodyPost_ret (v:= .tuple #[.agg #[aA,aB,.slice (some ⟨g,0,none⟩) xs.length cq],x]) (by simp[results,Tryz.results124,go_sem, *]) rfl (dX (by simp) (bG (by rw[←dI];exact bB O_5.out (Ext.refl _).drew) (by omega)) X_5.out.drew)
theorem zK (aA aB id:Int)(p:OA)(n cap:Nat)(xs:List Int)(w:World)(hS:Sl w p n cap 1 (ivs xs))(hok:aP aA aB xs=true):
  Calls Tryz.prog 121 #[aI aA aB p n cap,(),id] w (cJ aA aB (cM aA aB xs id).1 (cM aA aB xs id).2 w):=by
 have hl:=hS.ilen
 subst hl
 obtain⟨g1,g2,g3,g4,g5,g6,g7,g8,g9⟩:=bN hok
 obtain⟨b,off,x,rfl,hx,hb,hc⟩:=hS.int_at (k:=0) (by omega)
 have hc0:w.cell? ⟨b,off,none⟩=some (.int .i64 x):=by simpa using hc
 have hx0:xs.getD 0 0=x:=by rw[List.getD_eq_getElem?_getD,hx];rfl
 have HV:=fun(w':World) (hy:Ext w w')=>fV aA aB _ xs.length cap xs w' (hS.ext hy)
 rw[hok]at HV
 have HC:=fun(w':World) (hy:Ext w w')=>eU aA aB _ xs.length cap xs w' (by omega) (hS.ext hy)
 have HI:=fun(w:World)=>kO 0 0 ((xs.length:Int)-1) w (by omega) (by omega)
 unfold cM
 rw[hx0]
 by_cases e0:x=0
 ·have e1:(x !=0)=false:=by simp[e0]
  by_cases hi:1≤id
  ·have HV2:=fun(w':World) q c (h:Sl w' q xs.length c 1 (ivs (xs.set 0 id)))=>fV aA aB q xs.length c (xs.set 0 id) w' h
   cases h2:aP aA aB (xs.set 0 id)with
   |true=>rw[h2]at HV2;rw[if_pos ⟨e0,hi,rfl⟩];exact aAh aA aB id b off cap x xs w g5 g6 hx hb hc0 e1 hi HI HV2 HV HC
   |false=>rw[h2]at HV2;rw[if_neg (by simp)];exact aAi aA aB id b off cap x xs w g5 g6 hx hb hc0 e1 hi HI HV2 HV HC
  ·rw[if_neg (fun h=>hi h.2.1)];exact aD9 aA aB id b off cap x xs w g5 g6 hx hb hc0 e1 (by omega) HI HV HC
 ·rw[if_neg (fun h=>e0 h.1)];exact xF aA aB id b off cap x xs w g5 g6 hx hb hc0 (by simpa using e0) HI HV HC
theorem wF (aA aB:Int)(p:OA)(n cap:Nat)(xs:List Int)(w:World)(hS:Sl w p n cap 1 (ivs xs))(hok:aP aA aB xs=true):
  Calls Tryz.prog 124 #[aI aA aB p n cap,()] w (cI aA aB (xs.set 0 0) (xs.getD 0 0) w):=by
 have hl:=hS.ilen
 subst hl
 obtain⟨g1,g2,g3,g4,g5,g6,g7,g8,g9⟩:=bN hok
 obtain⟨b,off,x,rfl,hx,hb,hc⟩:=hS.int_at (k:=0) (by omega)
 have hc0:w.cell? ⟨b,off,none⟩=some (.int .i64 x):=by simpa using hc
 have hx0:xs.getD 0 0=x:=by rw[List.getD_eq_getElem?_getD,hx];rfl
 have HV:=fun(w':World) (hy:Ext w w')=>fV aA aB _ xs.length cap xs w' (hS.ext hy)
 rw[hok]at HV
 rw[hx0]
 exact aFf aA aB b off cap x xs w g5 g6 hx hb hc0 (fun w=>kO 0 0 ((xs.length:Int)-1) w (by omega) (by omega)) HV (fun(w':World) (hy:Ext w w')=>eU aA aB _ xs.length cap xs w' (by omega) (hS.ext hy))
abbrev Sl2:=Int×Int
def aM (s:Sl2):List Value:= [.int .i64 s.1,.int .i64 s.2]
def fR (l:List Sl2)(w:World)(e:Ending)(w':World):Prop:=
 ∃p cap,e= .returned (.slice p l.length cap)∧w'.ownsRow w.heap.size TSL 2 (.slice p l.length cap) l.length (l.flatMap aM)∧Ext w w'
theorem oN:ElT Tryz.prog 132 TSL 2:=
 ⟨Tryz.underlying132,by
  obtain⟨i,hi,h0,h1,h2⟩:=info_parts (show(Tryz.prog.info? TSL).map (fun i=>(i.zero,i.size,i.bytes))=some (some (.agg #[(),()]),2,16) by kernel_rfl)
  exact⟨i,_,hi,h0,h1,by omega,rfl⟩,by omega⟩
theorem aC4 (w:World)(a b:Value)(t:TypeId): ∀j u,([a,b]:List Value)[j]? =some u→(w.alloc (.cells #[a,b] t)).cell? ⟨w.heap.size,0+j,none⟩=some u:=by
 intro j u hu
 rw[Nat.zero_add]
 match j,hu with
 |0,hu=>simp at hu;subst hu;exact(Blk.new w t #[a,b]).cell 0
 |1,hu=>simp at hu;subst hu;exact(Blk.new w t #[a,b]).cell 1
def lQ (m:Nat→Bool)(f:Nat):Nat→List Sl2
 |0=> []
 |k+1=>lQ m f k++(if m k then [((f:Int),(k:Int))]else [])
def fH (m:Nat→Nat→Bool)(n:Nat):Nat→List Sl2
 |0=> []
 |k+1=>fH m n k++lQ (m k) k n
theorem aFw (m:Nat→Bool)(f k:Nat):(lQ m f k).length≤k:=by
 induction k with
 |zero=>exact Nat.le_refl _
 |succ k ih=>unfold lQ;rw[List.length_append];split<;>simp<;>omega
theorem aDj (m:Nat→Nat→Bool)(n k:Nat):(fH m n k).length≤k*n:=by
 induction k with
 |zero=>simp[fH]
 |succ k ih=>unfold fH;rw[List.length_append,Nat.succ_mul];have:=aFw (m k) k n;omega
def jB (aA aB:Int)(xs:List Int):List Sl2:=fH (fun f t=>bC aA aB xs f t) xs.length xs.length
theorem aF9 (aA aB:Int)(p:OA)(n cap:Nat)(m:Nat→Nat→Bool)(w:World)(hn:n≤12)
  (HM:Hid (∀(f t:Nat),f<n→t<n→ ∀w',Ext w w'→Calls Tryz.prog 127 #[aI aA aB p n cap,dK (f:Int) (t:Int)] w' fun e w''=>e= .returned (.bool (m f t))∧Ext w' w'')):
  Calls Tryz.prog 111 #[aI aA aB p n cap] w (fR (fH m n n) w):=by
 go_enter Tryz.func111,Tryz.ntmps111
 go_wp2
 go_loopw [3,4] (fun v i wr=> ∃(k:Nat) (q:OA) (l c:Nat),k≤n∧i= .int .i64 k∧v= .slice q l c∧l≤k*n∧wr.ownsRow (w.heap.size+1) TSL 2 (.slice q l c) l ((fH m n k).flatMap aM)∧Ext w wr∧Blk wr w.heap.size TH3 #[aA,aB,.slice p n cap]) (fun _ i _=>n-(intOf i).toNat)
 case atStart=>
  have ho:((w.alloc (.cells #[aA,aB,.slice p n cap] TH3)).alloc (.cells #[] TSL)).ownsRow (w.heap.size+1) TSL 2 (.slice (some ⟨(w.alloc (.cells #[aA,aB,.slice p n cap] TH3)).heap.size,0,none⟩) 0 0) 0 []:=World.ownsRow_made _ #[] 0 (by simp) (by simp[maxLen]) rfl
  exact⟨0,_,0,0,Nat.zero_le _,rfl,rfl,by simp,by simpa[fH]using ho,by exact .alloc (.alloc (.refl _) _) _,(Blk.new w _ _).alloc _⟩
 case round=>
  obtain⟨k,q,l,c,hk,rfl,rfl,hlk,hown,hEw,hB⟩:=hrel
  have HO:=xQ hown
  have HB:=xQ hB
  have hsz:w.heap.size<wr.heap.size:=hB.lt
  have hln:Hid (l=(fH m n k).length):=by have:=hown.1;rw[cH aM 2 (fun _=>rfl)]at this;show _=_;omega
  clear hown hB
  obtain⟨b0,b1,b2⟩:=HB.out.cells3
  by_cases hlt:k<n
  ·have hkn:k*n≤132:=by have:=Nat.mul_le_mul (show k≤11 by omega) hn;omega
   go_wp2
   obtain⟨wo,rfl⟩: ∃wo:World,wo=wr:=⟨_,rfl⟩
   clear b0 b1 b2
   go_loopw [3,5] (fun v i wr=> ∃(j:Nat) (q:OA) (l c:Nat),j≤n∧i= .int .i64 j∧v= .slice q l c∧l≤k*n+j∧wr.ownsRow (w.heap.size+1) TSL 2 (.slice q l c) l ((fH m n k++lQ (m k) k j).flatMap aM)∧Ext w wr∧Blk wr w.heap.size TH3 #[aA,aB,.slice p n cap]) (fun _ i _=>n-(intOf i).toNat)
   case atStart=>exact⟨0,q,l,c,Nat.zero_le _,rfl,rfl,by omega,by simpa[lQ]using HO.out,hEw,HB.out⟩
   case round=>
    clear HO HB hsz hEw hln hlk
    obtain⟨j,q,l,c,hj,rfl,rfl,hlk,hown,hEw,hB⟩:=hrel
    have HO:=xQ hown
    have HB:=xQ hB
    have hsz:w.heap.size<wr.heap.size:=hB.lt
    clear hown hB
    obtain⟨b0,b1,b2⟩:=HB.out.cells3
    by_cases hlt2:j<n
    ·go_wp2_with fail
     refine(HM.out k j hlt hlt2 _ hEw).mono ?_
     rintro e w1 ⟨rfl,h1⟩
     have HO1:=xQ (bB HO.out h1)
     have HB1:=xQ (HB.out.ext h1)
     have hEw1:=xQ (hEw.trans h1)
     have hsz1:w.heap.size<w1.heap.size:=HB1.out.lt
     clear h1 b0 b1 b2 HO HB hEw
     cases hm:m k j with
     |true=>
      have hfin:Hid (fH m n k++lQ (m k) k (j+1)=(fH m n k++lQ (m k) k j)++ [((k:Int),(j:Int))]):=by
       show _=_;rw[lQ,if_pos hm,List.append_assoc]
      clear hm
      go_wp2_with (at_builtin;refine kJ oN (f:=aM) (fun _=>rfl) (fun _ u hu=>by simp[aM]at hu;rcases hu with rfl|rfl<;>rfl) rfl _ _ rfl (w.heap.size+1) _ _ _ rfl (HO1.out.alloc _) _ _ ((k:Int),(j:Int)) _ rfl (aC4 _ _ _ _) (by omega) (by first|(simp;done)|(simp;omega)) ?_;intro p' cap' w2 hown1 hg1;have HO2:=xQ hown1;have hE1:Ext w w2:=Ext.own (hEw1.out.alloc _) (HO1.out.alloc _) hg1 (by omega);have HB2:=xQ (oS HO1.out hg1 HB1.out);clear hown1 hg1)
      go_roundw
      case rel=>exact⟨j+1,p',l+1,cap',by omega,by go_num,rfl,by omega,by rw[hfin.out];exact HO2.out,hE1,HB2.out⟩
      case measure=>simp[intOf];omega
     |false=>
      have hfin:Hid (fH m n k++lQ (m k) k (j+1)=fH m n k++lQ (m k) k j):=by
       show _=_;rw[lQ,if_neg (by rw[hm];simp),List.append_nil]
      clear hm
      go_wp2
      go_roundw
      case rel=>exact⟨j+1,q,l,c,by omega,by go_num,rfl,by omega,by rw[hfin.out];exact HO1.out,hEw1.out,HB1.out⟩
      case measure=>simp[intOf];omega
    ·have hfin:Hid (fH m n k++lQ (m k) k j=fH m n (k+1)):=by
      show _=_;rw[fH,show j=n by omega]
     have hk1:k*n+n=(k+1)*n:=(Nat.succ_mul k n).symm
     go_wp2
     go_roundw
     case rel=>exact⟨k+1,q,l,c,by omega,by go_num,rfl,by rw[←hk1];omega,by rw[←hfin.out];exact HO.out,hEw,HB.out⟩
     case measure=>simp[intOf];omega
  ·have hfin:Hid (fH m n k=fH m n n):=by
    show _=_;rw[show k=n by omega]
   go_wp2
   go_ret
   have hl2:(fH m n n).length=l:=by rw[←hfin.out];exact hln.out.symm
   subst hl2
   exact⟨q,c,rfl,by rw[hfin.out]at HO;exact bG HO.out (Nat.le_succ _),hEw⟩
theorem sX (aA aB:Int)(p:OA)(n cap:Nat)(xs:List Int)(w:World)(hS:Sl w p n cap 1 (ivs xs))(hok:aP aA aB xs=true):
  Calls Tryz.prog 111 #[aI aA aB p n cap] w (fR (jB aA aB xs) w):=by
 have hl:=hS.ilen
 subst hl
 obtain⟨g1,g2,g3,g4,g5,g6,g7,g8,g9⟩:=bN hok
 exact aF9 aA aB p xs.length cap _ w g6 (fun f t _ _ w' hx=>aF8 aA aB f t p xs.length cap xs w' (hS.ext hx))
end Go.Proofs.YtgnkoffndhmhpaaGreatDoor
namespace Go.Proofs.YtgnkoffndhmhpaaGreatDoor
open Go.RowKit
set_option linter.unusedVariables false
set_option linter.unusedSimpArgs false
theorem aFr {xs:List Int}{i j:Nat}{a b:Int}(hi:xs[i]? =some a) (hj:xs[j]? =some b) (hij:i≠j):List.Perm ((xs.set j a).set i b) xs:=by
 induction xs generalizing i j with
 |nil=>simp at hi
 |cons x xs ih=>
  cases i with
  |zero=>
   cases j with
   |zero=>exact absurd rfl hij
   |succ j=>
    simp only[List.getElem?_cons_zero,Option.some.injEq,List.getElem?_cons_succ]at hi hj
    subst hi
    simp only[List.set_cons_succ,List.set_cons_zero]
    obtain⟨hlt,rfl⟩:=List.getElem?_eq_some_iff.1 hj
    clear ih hij hj
    induction xs generalizing j with
    |nil=>simp at hlt
    |cons y ys ih2=>
     cases j with
     |zero=>simpa using List.Perm.swap x y ys
     |succ j=>
      simp only[List.length_cons,Nat.add_lt_add_iff_right]at hlt
      simp only[List.set_cons_succ,List.getElem_cons_succ]
      exact(List.Perm.swap y _ _).trans ((List.Perm.cons y (ih2 j hlt)).trans (List.Perm.swap x y ys))
  |succ i=>
   cases j with
   |zero=>
    simp only[List.getElem?_cons_zero,Option.some.injEq,List.getElem?_cons_succ]at hi hj
    subst hj
    simp only[List.set_cons_succ,List.set_cons_zero]
    obtain⟨hlt,rfl⟩:=List.getElem?_eq_some_iff.1 hi
    clear ih hij hi
    induction xs generalizing i with
    |nil=>simp at hlt
    |cons y ys ih2=>
     cases i with
     |zero=>simpa using List.Perm.swap x y ys
     |succ i=>
      simp only[List.length_cons,Nat.add_lt_add_iff_right]at hlt
      simp only[List.set_cons_succ,List.getElem_cons_succ]
      exact(List.Perm.swap y _ _).trans ((List.Perm.cons y (ih2 i hlt)).trans (List.Perm.swap x y ys))
   |succ j=>
    simp only[List.getElem?_cons_succ]at hi hj
    simp only[List.set_cons_succ]
    exact List.Perm.cons x (ih hi hj (by omega))
theorem qH {aA aB:Int}{xs ys:List Int}(h:aP aA aB xs=true)(hp:List.Perm ys xs):aP aA aB ys=true:=by
 unfold aP at*
 rw[Bool.and_eq_true]at*
 refine⟨by rw[hp.length_eq];exact h.1,?_⟩
 obtain⟨h1,h2,h3⟩:=(eI _ _).1 h.2
 exact(eI _ _).2 ⟨fun x hx=>h1 x (hp.mem_iff.1 hx),fun x hx=>h2 x (hp.mem_iff.1 hx),(hp.filter _).nodup_iff.2 h3⟩
theorem kX {aA aB:Int}{xs:List Int}(f t:Int):List.Perm (bE aA aB xs f t) xs:=by
 unfold bE
 cases h:bC aA aB xs f t with
 |false=>exact List.Perm.refl _
 |true=>
  rw[if_pos rfl]
  obtain⟨k1,k2,k3,k4,k5,k6,k7,k8,k9⟩:=jI h
  refine aFr ?_ ?_ (by omega)
  ·rw[List.getD_eq_getElem?_getD,List.getElem?_eq_getElem (by omega)];rfl
  ·rw[List.getElem?_eq_getElem (by omega)];rw[List.getD_eq_getElem?_getD,List.getElem?_eq_getElem (by omega)]at k8;simpa using k8
theorem fZ {aA aB:Int}{xs:List Int}(f t:Int)(h:aP aA aB xs=true):aP aA aB (bE aA aB xs f t)=true:=qH h (kX f t)
def bA (aA aB:Int):List Int→List Sl2→List Int×Nat
 |xs,[]=>(xs,0)
 |xs,s::l=>if bC aA aB xs s.1 s.2 then((bA aA aB (bE aA aB xs s.1 s.2) l).1,(bA aA aB (bE aA aB xs s.1 s.2) l).2+1)else(xs,0)
theorem dR {aA aB:Int}{xs:List Int}{s:Sl2}{l:List Sl2}(h:bC aA aB xs s.1 s.2=true):bA aA aB xs (s::l)=((bA aA aB (bE aA aB xs s.1 s.2) l).1,(bA aA aB (bE aA aB xs s.1 s.2) l).2+1):=by
 rw[bA,if_pos h]
theorem iP {aA aB:Int}{xs:List Int}{s:Sl2}{l:List Sl2}(h:bC aA aB xs s.1 s.2=false):bA aA aB xs (s::l)=(xs,0):=by
 rw[bA,if_neg (by rw[h];simp)]
theorem mY {aA aB:Int}: ∀(l:List Sl2) (xs:List Int) (s:Sl2),(bA aA aB xs l).2=l.length→bA aA aB xs (l++ [s])=(if bC aA aB (bA aA aB xs l).1 s.1 s.2 then(bE aA aB (bA aA aB xs l).1 s.1 s.2,l.length+1)else((bA aA aB xs l).1,l.length)):=by
 intro l
 induction l with
 |nil=>
  intro xs s _
  cases h:bC aA aB xs s.1 s.2 with
  |true=>rw[List.nil_append,dR h];simp[bA,h]
  |false=>rw[List.nil_append,iP h];simp[bA,h]
 |cons a l ih=>
  intro xs s h
  cases ha:bC aA aB xs a.1 a.2 with
  |false=>rw[iP ha]at h;simp at h
  |true=>
   rw[dR ha]at h
   have h':(bA aA aB (bE aA aB xs a.1 a.2) l).2=l.length:=by simpa using h
   rw[List.cons_append,dR ha,dR ha,ih _ s h']
   dsimp only
   split<;>simp
theorem sY {aA aB:Int}: ∀(l r:List Sl2) (xs:List Int),(bA aA aB xs l).2<l.length→bA aA aB xs (l++r)=bA aA aB xs l:=by
 intro l
 induction l with
 |nil=>intro r xs h;simp at h
 |cons a l ih=>
  intro r xs h
  cases ha:bC aA aB xs a.1 a.2 with
  |false=>rw[List.cons_append,iP ha,iP ha]
  |true=>
   rw[dR ha]at h
   have h':(bA aA aB (bE aA aB xs a.1 a.2) l).2<l.length:=by simpa using h
   rw[List.cons_append,dR ha,dR ha,ih r _ h']
theorem lP {aA aB:Int}: ∀(l:List Sl2) (xs:List Int),aP aA aB xs=true→aP aA aB (bA aA aB xs l).1=true∧(bA aA aB xs l).1.length=xs.length∧List.Perm (bA aA aB xs l).1 xs:=by
 intro l
 induction l with
 |nil=>intro xs h;exact⟨h,rfl,List.Perm.refl _⟩
 |cons a l ih=>
  intro xs h
  unfold bA
  split
  ·obtain⟨a1,a2,a3⟩:=ih _ (fZ a.1 a.2 h)
   exact⟨a1,a2.trans (cN _ _ _ _ _),a3.trans (kX _ _)⟩
  ·exact⟨h,rfl,List.Perm.refl _⟩
end Go.Proofs.YtgnkoffndhmhpaaGreatDoor
