/-
  Texts of this proof, packed (@packed).
-/
import Derived.Test.YteejdnmmpmcmeaaGreatDoorP3
import Derived.Test.YteejdnmmpmcmeaaGreatDoorP4
import Derived.Test.YteejdnmmpmcmeaaGreatDoorP5
import Derived.Test.YteejdnmmpmcmeaaGreatDoorP11
import Derived.Test.YteejdnmmpmcmeaaGreatDoorP27
namespace Go.Proofs.YteejdnmmpmcmeaaGreatDoor
open Go.RowKit
set_option linter.unusedVariables false
set_option linter.unusedSimpArgs false
def aEz (R k:Nat)(w:World)(e:Ending)(w':World):Prop:= ∃a b c:Int,e= .returned (oB a b c)∧Rand w' R (k+60)∧ExtR R w w'
theorem ExtR.of_drew {R:Nat}{a b:World}(h:ExtR R a.drew b):ExtR R a b:=⟨h.os,h.tape,h.output,h.size,h.block⟩
theorem aL7: ∀x:Nat,x<9→ ∃y:Int,(#[.int .i64 0,.int .i64 0,.int .i64 0,.int .i64 1,.int .i64 1,.int .i64 2,.int .i64 2,.int .i64 3,.int .i64 4]:Array Value)[x]? =some (.int .i64 y)
 |0,_=>⟨_,rfl⟩|1,_=>⟨_,rfl⟩|2,_=>⟨_,rfl⟩|3,_=>⟨_,rfl⟩|4,_=>⟨_,rfl⟩|5,_=>⟨_,rfl⟩|6,_=>⟨_,rfl⟩|7,_=>⟨_,rfl⟩|8,_=>⟨_,rfl⟩
 |n+9,h=>absurd h (by omega)
theorem aB6 {vs:List bC}{x:Nat}(h:x<vs.length): ∃y:Int,(vs.flatMap aE)[x*4]? =some (.int .i64 y):=by
 have h0:=jR aE 4 (fun _=>rfl) vs x _ (List.getElem?_eq_getElem h) 0 (by omega)
 exact⟨_,by simpa[aE]using h0⟩
set_option maxRecDepth 100000 in
set_option maxHeartbeats 8000000 in
theorem vT (R k:Nat)(aA aB free step aD aH aC aI:Int)(p:Option Addr)(n cap:Nat)(q:Option Addr)(m c2:Nat)(vs:List bC)(sl:List Sl2)(w:World)(hr0:Rand w R k)(hk:k≤1099511600000)(hm:m≤1000)(KS:Nat)(hKS:Hid (sl.length=KS))(hsl:KS≤10000)(hvl:Hid (vs.length=m))
  (HS:Hid (Sl w q m c2 4 (vs.flatMap aE)))(hq:Hid (∀b off,0<m→q=some ⟨b,off,none⟩→b≠R))
  (HSA:Hid (∀w',ExtR R w w'→Calls Tryz.prog 152 #[aJ aA aB p n cap] w' fun e w''=> ∃q c,e= .returned (.slice q KS c)∧w''.ownsRow w'.heap.size TSL 2 (.slice q KS c) KS (sl.flatMap aN)∧Ext w' w'')):
  Calls Tryz.prog 117 #[.pointer (some ⟨R,0,none⟩),.agg #[.int .i64 aA,.int .i64 aB,.slice p n cap,.int .i64 free,.int .i64 step,.int .i64 aD,.int .i64 aH,.int .i64 aC,.int .i64 aI,.slice q m c2]] w (aEz R k w):=by
 have hR:=hr0.lt
 go_enter Tryz.func117,Tryz.ntmps117
 go_wp2
 have r1:Rand ((w.alloc (.cells #[.int .i64 aA,.int .i64 aB,.slice p n cap,.int .i64 free,.int .i64 step,.int .i64 aD,.int .i64 aH,.int .i64 aC,.int .i64 aI,.slice q m c2] aQ)).alloc (.cells #[.int .i64 0,.int .i64 0,.int .i64 0] THD)) R k:=hr0.ext (by exact .alloc (.alloc (.refl _) _) _)
 have M1:=xQ (((((MemR.start R w hR).blkNew aQ #[.int .i64 aA,.int .i64 aB,.slice p n cap,.int .i64 free,.int .i64 step,.int .i64 aD,.int .i64 aH,.int .i64 aC,.int .i64 aI,.slice q m c2] (w.heap.size) (by simp))).blkNew THD #[.int .i64 0,.int .i64 0,.int .i64 0] (w.heap.size+1) (by simp)))
 generalize hwz:((w.alloc (.cells #[.int .i64 aA,.int .i64 aB,.slice p n cap,.int .i64 free,.int .i64 step,.int .i64 aD,.int .i64 aH,.int .i64 aC,.int .i64 aI,.slice q m c2] aQ)).alloc (.cells #[.int .i64 0,.int .i64 0,.int .i64 0] THD))=w1
 rw[hwz]at M1 r1
 clear hwz hr0
 have lt1_0:=M1.out.hi 0
 have lt1_1:=M1.out.hi 1
 have hR1:R<w1.heap.size:=r1.lt
 refine sT (gl [xP (w1.heap.size) TI #[.int .i64 0,.int .i64 0,.int .i64 0,.int .i64 1,.int .i64 1,.int .i64 2,.int .i64 2,.int .i64 3,.int .i64 4] 9,gEq (.pointer (some ⟨R,0,none⟩)),aGm (9),(fun v w'=> ∃g x:Nat,v= .pointer (some ⟨g,x,none⟩)∧x<9∧w1.heap.size≤g∧Blk w' g TI #[.int .i64 0,.int .i64 0,.int .i64 0,.int .i64 1,.int .i64 1,.int .i64 2,.int .i64 2,.int .i64 3,.int .i64 4]),sD,gEq (.pointer (some ⟨R,0,none⟩)),aGm (60),sD,sD,sD,gEq (.pointer (some ⟨R,0,none⟩)),aGm (12),sD,gEq (.pointer (some ⟨R,0,none⟩)),aGm (60),sD,sD,sD,(fun v _=> ∃a b:Int,v= .agg #[.int .i64 a,.int .i64 b,.int .i64 0]),aIp (w1.heap.size) THD #[.int .i64 0,.int .i64 0,.int .i64 0]]) R (k) 1 20 (by kernel_rfl) rfl (by kernel_rfl) (by kernel_rfl) (by kernel_rfl) r1 (aCw (bX (aEp (by omega) _ _ _) (bX (fC _) (bX (kW _) (bX (fun v w w' ⟨g,x,h1,h2,h3,h4⟩ hx=>⟨g,x,h1,h2,h3,ExtR.blk hx h4 (by omega)⟩) (bX (fO) (bX (fC _) (bX (kW _) (bX (fO) (bX (fO) (bX (fO) (bX (fC _) (bX (kW _) (bX (fO) (bX (fC _) (bX (kW _) (bX (fO) (bX (fO) (bX (fO) (bX (fun _ _ _ h _=>h) (bX (aEq (by omega) _ _) (aF9)))))))))))))))))))))) rfl (k:=21) (by kernel_rfl) (by decide) (ls:= [(0,some 8),(1,some 9),(2,some 10),(3,some 11),(4,some 12),(5,some 13),(6,some 14),(7,some 15),(8,some 16),(9,some 17),(10,some 18),(11,some 19),(12,some 20),(13,some 21),(14,some 22),(15,some 23),(16,some 24),(17,some 25),(18,some 26),(19,some 5)]) (by kernel_rfl) (ir:= [0,1,2,3,4,5,6,7,8,9,10,11,12,13,14,15,16,17,18,19]) (by kernel_rfl) ?steps (tl:=#[true,true,true,true,true,true,true,true,true,true,true,true,true,true,true,true,true,true,true,true,false]) (by kernel_rfl) ?fin
 case steps=>
  refine sCr [] rfl (fun wi kk hx hr hkk=> ?_) ?_
  ·intro K hK
   go_simp
   exact hK _ _ ⟨.slice (some ⟨wi.heap.size,0,none⟩) 9 9,rfl,⟨wi.heap.size,rfl,by have:=hx.sz;simp at this;omega,Blk.new _ _ _⟩,(fJ hr ((Ext.refl _).alloc _))⟩
  refine sCr [] rfl (fun wi kk hx hr hkk=> ?_) ?_
  ·intro K hK
   go_simp
   exact hK _ _ ⟨.pointer (some ⟨R,0,none⟩),rfl,rfl,(fJ hr (Ext.refl _))⟩
  refine sCr [(1,some 9)] rfl (fun wi kk hx hr hkk=> ?_) ?_
  ·intro v1 h1 K hK
   obtain rfl:=h1
   go_wp2_with fail
   refine(bS R kk (9) _ hr (by omega)).mono ?_
   rintro e w5 ⟨x,rfl,xa,xb,r5,x5⟩
   go_simp
   exact hK _ _ ⟨.int .i64 x,rfl,⟨x,rfl,xa,by have hp:(0:Int)<9:=(by omega);omega⟩,⟨x5,r5⟩⟩
  refine sCr [(0,some 8),(2,some 10)] rfl (fun wi kk hx hr hkk=> ?_) ?_
  ·intro v0 h0 v2 h2 K hK
   obtain⟨g0,rfl,hg0,B0⟩:=h0
   obtain⟨x2,rfl,xa2,xb2⟩:=h2
   obtain⟨xn,rfl⟩:=Int.eq_ofNat_of_zero_le xa2
   have i1:(xn:Int)<9:=xb2
   go_simp
   exact hK _ _ ⟨_,rfl,⟨g0,xn,rfl,by omega,hg0,B0⟩,(fJ hr (Ext.refl _))⟩
  refine sCr [(3,some 11)] rfl (fun wi kk hx hr hkk=> ?_) ?_
  ·intro v3 h3 K hK
   obtain⟨g3,x3,rfl,xb3,hg3,B3⟩:=h3
   obtain⟨y,hy⟩:=aL7 x3 xb3
   have c:=(B3.cell x3).trans hy
   go_simp
   exact hK _ _ ⟨_,rfl,⟨_,rfl⟩,(fJ hr (Ext.refl _))⟩
  refine sCr [] rfl (fun wi kk hx hr hkk=> ?_) ?_
  ·intro K hK
   go_simp
   exact hK _ _ ⟨.pointer (some ⟨R,0,none⟩),rfl,rfl,(fJ hr (Ext.refl _))⟩
  refine sCr [(5,some 13)] rfl (fun wi kk hx hr hkk=> ?_) ?_
  ·intro v5 h5 K hK
   obtain rfl:=h5
   go_wp2_with fail
   refine(bS R kk (60) _ hr (by omega)).mono ?_
   rintro e w5 ⟨x,rfl,xa,xb,r5,x5⟩
   go_simp
   exact hK _ _ ⟨.int .i64 x,rfl,⟨x,rfl,xa,by have hp:(0:Int)<60:=(by omega);omega⟩,⟨x5,r5⟩⟩
  refine sCr [(6,some 14)] rfl (fun wi kk hx hr hkk=> ?_) ?_
  ·intro v6 h6 K hK
   obtain⟨x6,rfl,xa6,xb6⟩:=h6
   go_simp
   exact hK _ _ ⟨_,rfl,⟨_,rfl⟩,(fJ hr (Ext.refl _))⟩
  refine sCr [(7,some 15)] rfl (fun wi kk hx hr hkk=> ?_) ?_
  ·intro v7 h7 K hK
   obtain⟨n7,rfl⟩:=h7
   go_simp
   exact hK _ _ ⟨_,rfl,⟨_,rfl⟩,(fJ hr (Ext.refl _))⟩
  refine sCr [(4,some 12),(8,some 16)] rfl (fun wi kk hx hr hkk=> ?_) ?_
  ·intro v4 h4 v8 h8 K hK
   obtain⟨n4,rfl⟩:=h4
   obtain⟨n8,rfl⟩:=h8
   go_simp
   exact hK _ _ ⟨_,rfl,⟨_,rfl⟩,(fJ hr (Ext.refl _))⟩
  refine sCr [] rfl (fun wi kk hx hr hkk=> ?_) ?_
  ·intro K hK
   go_simp
   exact hK _ _ ⟨.pointer (some ⟨R,0,none⟩),rfl,rfl,(fJ hr (Ext.refl _))⟩
  refine sCr [(10,some 18)] rfl (fun wi kk hx hr hkk=> ?_) ?_
  ·intro v10 h10 K hK
   obtain rfl:=h10
   go_wp2_with fail
   refine(bS R kk (12) _ hr (by omega)).mono ?_
   rintro e w5 ⟨x,rfl,xa,xb,r5,x5⟩
   go_simp
   exact hK _ _ ⟨.int .i64 x,rfl,⟨x,rfl,xa,by have hp:(0:Int)<12:=(by omega);omega⟩,⟨x5,r5⟩⟩
  refine sCr [(11,some 19)] rfl (fun wi kk hx hr hkk=> ?_) ?_
  ·intro v11 h11 K hK
   obtain⟨x11,rfl,xa11,xb11⟩:=h11
   go_simp
   exact hK _ _ ⟨_,rfl,⟨_,rfl⟩,(fJ hr (Ext.refl _))⟩
  refine sCr [] rfl (fun wi kk hx hr hkk=> ?_) ?_
  ·intro K hK
   go_simp
   exact hK _ _ ⟨.pointer (some ⟨R,0,none⟩),rfl,rfl,(fJ hr (Ext.refl _))⟩
  refine sCr [(13,some 21)] rfl (fun wi kk hx hr hkk=> ?_) ?_
  ·intro v13 h13 K hK
   obtain rfl:=h13
   go_wp2_with fail
   refine(bS R kk (60) _ hr (by omega)).mono ?_
   rintro e w5 ⟨x,rfl,xa,xb,r5,x5⟩
   go_simp
   exact hK _ _ ⟨.int .i64 x,rfl,⟨x,rfl,xa,by have hp:(0:Int)<60:=(by omega);omega⟩,⟨x5,r5⟩⟩
  refine sCr [(14,some 22)] rfl (fun wi kk hx hr hkk=> ?_) ?_
  ·intro v14 h14 K hK
   obtain⟨x14,rfl,xa14,xb14⟩:=h14
   go_simp
   exact hK _ _ ⟨_,rfl,⟨_,rfl⟩,(fJ hr (Ext.refl _))⟩
  refine sCr [(15,some 23)] rfl (fun wi kk hx hr hkk=> ?_) ?_
  ·intro v15 h15 K hK
   obtain⟨n15,rfl⟩:=h15
   go_simp
   exact hK _ _ ⟨_,rfl,⟨_,rfl⟩,(fJ hr (Ext.refl _))⟩
  refine sCr [(12,some 20),(16,some 24)] rfl (fun wi kk hx hr hkk=> ?_) ?_
  ·intro v12 h12 v16 h16 K hK
   obtain⟨n12,rfl⟩:=h12
   obtain⟨n16,rfl⟩:=h16
   go_simp
   exact hK _ _ ⟨_,rfl,⟨_,rfl⟩,(fJ hr (Ext.refl _))⟩
  refine sCr [(9,some 17),(17,some 25)] rfl (fun wi kk hx hr hkk=> ?_) ?_
  ·intro v9 h9 v17 h17 K hK
   obtain⟨n9,rfl⟩:=h9
   obtain⟨n17,rfl⟩:=h17
   go_simp
   exact hK _ _ ⟨_,rfl,⟨_,_,rfl⟩,(fJ hr (Ext.refl _))⟩
  refine sCr [] rfl (fun wi kk hx hr hkk=> ?_) StepsLR.nil
  ·intro K hK
   go_simp
   exact hK _ _ ⟨.pointer (some ⟨wi.heap.size,0,none⟩),rfl,⟨wi.heap.size,rfl,by have:=hx.sz;simp at this;omega,Blk.new _ _ _⟩,(fJ hr ((Ext.refl _).alloc _))⟩
 case fin=>
  intro wi hx hr v0 h0 v1 h1 v2 h2 v3 h3 v4 h4 v5 h5 v6 h6 v7 h7 v8 h8 v9 h9 v10 h10 v11 h11 v12 h12 v13 h13 v14 h14 v15 h15 v16 h16 v17 h17 v18 h18 v19 h19
  obtain⟨g0,rfl,hg0,B0⟩:=h0
  obtain rfl:=h1
  obtain⟨x2,rfl,xa2,xb2⟩:=h2
  obtain⟨g3,x3,rfl,xb3,hg3,B3⟩:=h3
  obtain⟨n4,rfl⟩:=h4
  obtain rfl:=h5
  obtain⟨x6,rfl,xa6,xb6⟩:=h6
  obtain⟨n7,rfl⟩:=h7
  obtain⟨n8,rfl⟩:=h8
  obtain⟨n9,rfl⟩:=h9
  obtain rfl:=h10
  obtain⟨x11,rfl,xa11,xb11⟩:=h11
  obtain⟨n12,rfl⟩:=h12
  obtain rfl:=h13
  obtain⟨x14,rfl,xa14,xb14⟩:=h14
  obtain⟨n15,rfl⟩:=h15
  obtain⟨n16,rfl⟩:=h16
  obtain⟨n17,rfl⟩:=h17
  obtain⟨a18,b18,rfl⟩:=h18
  obtain⟨g19,rfl,hg19,B19⟩:=h19
  have hx1:ExtR R w1 wi:=hx.of_drew
  have hgR:R<g19:=by omega
  have hRi:R<wi.heap.size:=hr.lt
  have M2:=xQ (M1.out.blkR hx1 B19 hg19)
  clear hx1 B19 M1 lt1_0 lt1_1
  have lt2_0:=M2.out.hi 0
  have lt2_1:=M2.out.hi 1
  have lt2_2:=M2.out.hi 2
  obtain⟨d0,df0,d1,df1,d2,df2⟩:=(M2.out.blk (i:=0) rfl).trif
  refine wpAny_ready (rs:= [20]) (by kernel_rfl) (by simp) ?_
  refine AllReady.cons rfl (fun K hK=> ?_) AllReady.nil
  go_simp
  refine hK _ _ ?_
  clear hK K
  refine wpAny_done (by kernel_rfl) ?_ _
  try simp only[Act.put,List.setIfInBounds_toArray,List.set_cons_zero,List.set_cons_succ]
  have M3:=xQ (show MemR R w ((wi.setCell ⟨g19,0,none⟩ (.int .i64 a18)).setCell ⟨g19,1,none⟩ (.int .i64 b18)) [aK w.heap.size (g19) THD #[.int .i64 a18,.int .i64 b18,.int .i64 0],aK w.heap.size (w.heap.size+1) THD #[.int .i64 0,.int .i64 0,.int .i64 0],aK w.heap.size (w.heap.size) aQ #[.int .i64 aA,.int .i64 aB,.slice p n cap,.int .i64 free,.int .i64 step,.int .i64 aD,.int .i64 aH,.int .i64 aC,.int .i64 aI,.slice q m c2]]from((((M2.out).store (i:=0) rfl 0 (.int .i64 a18))).store (i:=0) rfl 1 (.int .i64 b18)))
  have r2:Rand (((wi.setCell ⟨g19,0,none⟩ (.int .i64 a18)).setCell ⟨g19,1,none⟩ (.int .i64 b18)).setCell ⟨g19,2,none⟩ (.int .i64 0)) R (k+20):=xN
  clear d0 df0 d1 df1 d2 df2 lt2_0 lt2_1 lt2_2
  clear hr
  have M4:=xQ (show MemR R w (((wi.setCell ⟨g19,0,none⟩ (.int .i64 a18)).setCell ⟨g19,1,none⟩ (.int .i64 b18)).setCell ⟨g19,2,none⟩ (.int .i64 0)) [aK w.heap.size (g19) THD #[.int .i64 a18,.int .i64 b18,.int .i64 0],aK w.heap.size (w.heap.size+1) THD #[.int .i64 0,.int .i64 0,.int .i64 0],aK w.heap.size (w.heap.size) aQ #[.int .i64 aA,.int .i64 aB,.slice p n cap,.int .i64 free,.int .i64 step,.int .i64 aD,.int .i64 aH,.int .i64 aC,.int .i64 aI,.slice q m c2]]from((M3.out).store (i:=0) rfl 2 (.int .i64 0)))
  generalize hwz:World.setCell _ _ _=w2
  rw[hwz]at M4 r2
  clear hwz M2 M3
  have lt4_0:=M4.out.hi 0
  have lt4_1:=M4.out.hi 1
  have lt4_2:=M4.out.hi 2
  go_upto_region 2 with fail
  go_cut [40] (fun s40 wx=> ∃c:Bool,s40= .bool c∧(c=true→0<m)∧MemR R w wx [aK w.heap.size (g19) THD #[.int .i64 a18,.int .i64 b18,.int .i64 0],aK w.heap.size (w.heap.size+1) THD #[.int .i64 0,.int .i64 0,.int .i64 0],aK w.heap.size (w.heap.size) aQ #[.int .i64 aA,.int .i64 aB,.slice p n cap,.int .i64 free,.int .i64 step,.int .i64 aD,.int .i64 aH,.int .i64 aC,.int .i64 aI,.slice q m c2]]∧Rand wx R (k+21))
  case first=>
   have c9:w2.cell? ⟨w.heap.size,9,none⟩=some (.slice q m c2):=(M4.out.blk (i:=2) rfl).cell 9
   have d0:w2.cell? ⟨g19,0,none⟩=some (.int .i64 a18):=(M4.out.blk (i:=0) rfl).cell 0
   by_cases hm0:m=0
   ·skip
    have d0:decide ((0:Int)<(m:Int))=false:=by simp;omega
    go_wp2_with fail
    go_meet
    exact⟨false,rfl,fun h=>by simp at h,M4.out,r2.mono (by omega)⟩
   ·have d0:decide ((0:Int)<(m:Int))=true:=by simp;omega
    by_cases ha:a18=0
    ·skip
     subst ha
     go_wp2_with fail
     go_meet
     exact⟨false,rfl,fun h=>by simp at h,M4.out,r2.mono (by omega)⟩
    ·have d1:(a18 !=0)=true:=by simp[ha]
     go_wp2_with fail
     refine(bS R (k+20) (5) _ r2 (by omega)).mono ?_
     rintro e w3 ⟨x,rfl,xa,xb,r3,xx⟩
     have M5:=xQ ((M4.out).pickd xx)
     clear xx M4
     clear lt4_0 lt4_1 lt4_2
     have lt5_0:=M5.out.hi 0
     have lt5_1:=M5.out.hi 1
     have lt5_2:=M5.out.hi 2
     by_cases x0:0<x
     ·have d2:decide (0<x)=true:=by simp[x0]
      go_wp2_with fail
      go_meet
      exact⟨true,rfl,fun _=>by omega,M5.out,r3⟩
     ·have d2:decide (0<x)=false:=by simp;omega
      go_wp2_with fail
      go_meet
      exact⟨false,rfl,fun h=>by simp at h,M5.out,r3⟩
  case rest=>
   clear M4 r2 lt4_0 lt4_1 lt4_2
   obtain⟨c,rfl,hcm,MC,r3⟩:=hcut
   have M3:=xQ MC
   clear MC
   have hR3:R<wc.heap.size:=r3.lt
   have lt3_0:=M3.out.hi 0
   have lt3_1:=M3.out.hi 1
   have lt3_2:=M3.out.hi 2
   go_upto_if 40 with fail
   go_cut [] (fun wx=> ∃b1:Int,MemR R w wx [aK w.heap.size (g19) THD #[.int .i64 a18,.int .i64 b1,.int .i64 0],aK w.heap.size (w.heap.size+1) THD #[.int .i64 0,.int .i64 0,.int .i64 0],aK w.heap.size (w.heap.size) aQ #[.int .i64 aA,.int .i64 aB,.slice p n cap,.int .i64 free,.int .i64 step,.int .i64 aD,.int .i64 aH,.int .i64 aC,.int .i64 aI,.slice q m c2]]∧Rand wx R (k+40))
   case first=>
    cases c with
    |false=>
     go_wp2_with fail
     go_meet
     exact⟨b18,M3.out,r3.mono (by omega)⟩
    |true=>
     have hm0:=hcm rfl
     obtain⟨b,off,rfl,hb,hcells⟩:=HS.out.rd hm0
     have hbR:b≠R:=hq.out b off hm0 rfl
     have HCL:=xQ hcells
     clear hcells
     have B0:=xQ (M3.out.blk (i:=2) rfl)
     have HX3:=xQ M3.out.ext
     go_upto_region 3 with fail
     refine sT (gl [gEq (.pointer (some ⟨w.heap.size,9,none⟩)),gEq (.slice (some ⟨b,off,none⟩) m c2),gEq (.pointer (some ⟨R,0,none⟩)),gEq (.pointer (some ⟨w.heap.size,9,none⟩)),gEq (.slice (some ⟨b,off,none⟩) m c2),gEq (.int .i64 (m:Int)),aGm ((m:Int)),(fun v _=> ∃x:Nat,v= .pointer (some ⟨b,off+x*4,none⟩)∧x<m),(fun v _=> ∃x:Nat,v= .pointer (some ⟨b,off+x*4,none⟩)∧x<m),sD,gEq (.pointer (some ⟨g19,1,none⟩))]) R (k+21) 1 11 (by kernel_rfl) rfl (by kernel_rfl) (by kernel_rfl) (by kernel_rfl) r3 (aCw (bX (fC _) (bX (fC _) (bX (fC _) (bX (fC _) (bX (fC _) (bX (fC _) (bX (kW _) (bX (fun _ _ _ h _=>h) (bX (fun _ _ _ h _=>h) (bX (fO) (bX (fC _) (aF9))))))))))))) rfl (k:=12) (by kernel_rfl) (by decide) (ls:= [(0,some 41),(1,some 42),(2,some 43),(3,some 44),(4,some 45),(5,some 46),(6,some 47),(7,some 48),(8,some 49),(9,some 50),(10,some 51)]) (by kernel_rfl) (ir:= [0,1,2,3,4,5,6,7,8,9,10]) (by kernel_rfl) ?steps (tl:=#[true,true,true,true,true,true,true,true,true,true,true,false]) (by kernel_rfl) ?fin
     case steps=>
      refine sCr [] rfl (fun wi kk hx hr hkk=> ?_) ?_
      ·intro K hK
       go_simp
       exact hK _ _ ⟨.pointer (some ⟨w.heap.size,9,none⟩),rfl,rfl,(fJ hr (Ext.refl _))⟩
      refine sCr [(0,some 41)] rfl (fun wi kk hx hr hkk=> ?_) ?_
      ·intro v0 h0 K hK
       obtain rfl:=h0
       have cl:wi.cell? ⟨w.heap.size,9,none⟩=some (.slice (some ⟨b,off,none⟩) m c2):=(hx.of_drew.blk B0.out (by omega)).cell 9
       go_simp
       exact hK _ _ ⟨.slice (some ⟨b,off,none⟩) m c2,rfl,rfl,(fJ hr (Ext.refl _))⟩
      refine sCr [] rfl (fun wi kk hx hr hkk=> ?_) ?_
      ·intro K hK
       go_simp
       exact hK _ _ ⟨.pointer (some ⟨R,0,none⟩),rfl,rfl,(fJ hr (Ext.refl _))⟩
      refine sCr [] rfl (fun wi kk hx hr hkk=> ?_) ?_
      ·intro K hK
       go_simp
       exact hK _ _ ⟨.pointer (some ⟨w.heap.size,9,none⟩),rfl,rfl,(fJ hr (Ext.refl _))⟩
      refine sCr [(3,some 44)] rfl (fun wi kk hx hr hkk=> ?_) ?_
      ·intro v3 h3 K hK
       obtain rfl:=h3
       have cl:wi.cell? ⟨w.heap.size,9,none⟩=some (.slice (some ⟨b,off,none⟩) m c2):=(hx.of_drew.blk B0.out (by omega)).cell 9
       go_simp
       exact hK _ _ ⟨.slice (some ⟨b,off,none⟩) m c2,rfl,rfl,(fJ hr (Ext.refl _))⟩
      refine sCr [(4,some 45)] rfl (fun wi kk hx hr hkk=> ?_) ?_
      ·intro v4 h4 K hK
       obtain rfl:=h4
       go_simp
       exact hK _ _ ⟨.int .i64 (m:Int),rfl,rfl,(fJ hr (Ext.refl _))⟩
      refine sCr [(2,some 43),(5,some 46)] rfl (fun wi kk hx hr hkk=> ?_) ?_
      ·intro v2 h2 v5 h5 K hK
       obtain rfl:=h2
       obtain rfl:=h5
       go_wp2_with fail
       refine(bS R kk ((m:Int)) _ hr (by omega)).mono ?_
       rintro e w5 ⟨x,rfl,xa,xb,r5,x5⟩
       go_simp
       exact hK _ _ ⟨.int .i64 x,rfl,⟨x,rfl,xa,by have hp:(0:Int)<(m:Int):=(by omega);omega⟩,⟨x5,r5⟩⟩
      refine sCr [(1,some 42),(6,some 47)] rfl (fun wi kk hx hr hkk=> ?_) ?_
      ·intro v1 h1 v6 h6 K hK
       obtain rfl:=h1
       obtain⟨x6,rfl,xa6,xb6⟩:=h6
       obtain⟨xn,rfl⟩:=Int.eq_ofNat_of_zero_le xa6
       have i1:(xn:Int)<(m:Int):=xb6
       have i0:(0:Int)≤(xn:Int):=by omega
       go_simp
       exact hK _ _ ⟨_,rfl,⟨xn,rfl,by omega⟩,(fJ hr (Ext.refl _))⟩
      refine sCr [(7,some 48)] rfl (fun wi kk hx hr hkk=> ?_) ?_
      ·intro v7 h7 K hK
       obtain⟨x7,rfl,xb7⟩:=h7
       go_simp
       exact hK _ _ ⟨_,rfl,⟨x7,rfl,xb7⟩,(fJ hr (Ext.refl _))⟩
      refine sCr [(8,some 49)] rfl (fun wi kk hx hr hkk=> ?_) ?_
      ·intro v8 h8 K hK
       obtain⟨x8,rfl,xb8⟩:=h8
       obtain⟨y,hy⟩:=aB6 (vs:=vs) (x:=x8) (by rw[hvl.out];exact xb8)
       have c:=(((HX3.out.trans hx.of_drew).cell (off+x8*4) hb hbR).trans (HCL.out (x8*4) (by omega))).trans hy
       go_simp
       exact hK _ _ ⟨_,rfl,⟨_,rfl⟩,(fJ hr (Ext.refl _))⟩
      refine sCr [] rfl (fun wi kk hx hr hkk=> ?_) StepsLR.nil
      ·intro K hK
       go_simp
       exact hK _ _ ⟨.pointer (some ⟨g19,1,none⟩),rfl,rfl,(fJ hr (Ext.refl _))⟩
     case fin=>
      intro wi hx hr v0 h0 v1 h1 v2 h2 v3 h3 v4 h4 v5 h5 v6 h6 v7 h7 v8 h8 v9 h9 v10 h10
      obtain rfl:=h0
      obtain rfl:=h1
      obtain rfl:=h2
      obtain rfl:=h3
      obtain rfl:=h4
      obtain rfl:=h5
      obtain⟨x6,rfl,xa6,xb6⟩:=h6
      obtain⟨x7,rfl,xb7⟩:=h7
      obtain⟨x8,rfl,xb8⟩:=h8
      obtain⟨n9,rfl⟩:=h9
      obtain rfl:=h10
      have hx3:ExtR R wc wi:=hx.of_drew
      have M4:=xQ ((M3.out).pickd hx3)
      clear hx3 M3
      clear lt3_0 lt3_1 lt3_2
      have lt4_0:=M4.out.hi 0
      have lt4_1:=M4.out.hi 1
      have lt4_2:=M4.out.hi 2
      have d1:wi.cell? ⟨g19,1,none⟩=some (.int .i64 b18):=(M4.out.blk (i:=0) rfl).cell 1
      have df1:wi.frozen? ⟨g19,1,none⟩=false:=(M4.out.blk (i:=0) rfl).frozen 1
      refine wpAny_ready (rs:= [11]) (by kernel_rfl) (by simp) ?_
      refine AllReady.cons rfl (fun K hK=> ?_) AllReady.nil
      go_simp
      refine hK _ _ ?_
      clear hK K
      refine wpAny_done (by kernel_rfl) ?_ _
      try simp only[Act.put,List.setIfInBounds_toArray,List.set_cons_zero,List.set_cons_succ]
      have r4:Rand (wi.setCell ⟨g19,1,none⟩ (.int .i64 n9)) R (k+40):=Rand.mono (k:=k+21+11) xN (by omega)
      go_wp2_with fail
      go_meet
      exact⟨n9,((M4.out).store (i:=0) rfl 1 (.int .i64 n9)),r4⟩
   case rest=>
    clear M3 r3 lt3_0 lt3_1 lt3_2
    obtain⟨b1,MC,r4⟩:=hcut
    have M4:=xQ MC
    clear MC
    have hR4:R<wc.heap.size:=r4.lt
    have lt4_0:=M4.out.hi 0
    have lt4_1:=M4.out.hi 1
    have lt4_2:=M4.out.hi 2
    have d0:wc.cell? ⟨g19,0,none⟩=some (.int .i64 a18):=(M4.out.blk (i:=0) rfl).cell 0
    by_cases k1:a18=1
    ·skip
     have k1b:(a18==1)=true:=by simp[k1]
     clear k1
     go_wp2_with fail
     clear d0
     refine(bS R (k+40) (40) _ r4 (by omega)).mono ?_
     rintro e w5 ⟨x,rfl,xa,xb,r5,xx⟩
     have M5:=xQ ((M4.out).pickd xx)
     clear xx M4
     clear lt4_0 lt4_1 lt4_2
     have lt5_0:=M5.out.hi 0
     have lt5_1:=M5.out.hi 1
     have lt5_2:=M5.out.hi 2
     go_wp2_with fail
     refine(bS R (k+40+1) (40) _ r5 (by omega)).mono ?_
     rintro e w6 ⟨y0,rfl,y0a,y0b,r6,y0x⟩
     have M6:=xQ ((M5.out).pickd y0x)
     clear y0x M5
     clear lt5_0 lt5_1 lt5_2
     have lt6_0:=M6.out.hi 0
     have lt6_1:=M6.out.hi 1
     have lt6_2:=M6.out.hi 2
     obtain⟨d0,df0,d1,df1,d2,df2⟩:=(M6.out.blk (i:=0) rfl).trif
     go_upto_region 15 with fail
     clear d0 df0 d1 df1 d2 df2
     generalize hwz:World.setCell _ _ _=wy
     obtain⟨y,hy⟩: ∃y,w6.setCell ⟨g19,2,none⟩ (.int .i64 y)=wy:=⟨_,hwz⟩
     clear hwz
     have M7:=xQ (show MemR R w (w6.setCell ⟨g19,2,none⟩ (.int .i64 y)) [aK w.heap.size (g19) THD #[.int .i64 a18,.int .i64 b1,.int .i64 y],aK w.heap.size (w.heap.size+1) THD #[.int .i64 0,.int .i64 0,.int .i64 0],aK w.heap.size (w.heap.size) aQ #[.int .i64 aA,.int .i64 aB,.slice p n cap,.int .i64 free,.int .i64 step,.int .i64 aD,.int .i64 aH,.int .i64 aC,.int .i64 aI,.slice q m c2]]from((M6.out).store (i:=0) rfl 2 (.int .i64 y)))
     have r7:Rand (w6.setCell ⟨g19,2,none⟩ (.int .i64 y)) R (k+40+1+1):=xN
     rw[hy]at M7 r7
     clear hy M6
     clear lt6_0 lt6_1 lt6_2
     have lt7_0:=M7.out.hi 0
     have lt7_1:=M7.out.hi 1
     have lt7_2:=M7.out.hi 2
     obtain⟨f0,ff0,f1,ff1,f2,ff2⟩:=(M7.out.blk (i:=1) rfl).trif
     obtain⟨d0,d1,d2⟩:=(M7.out.blk (i:=0) rfl).tri
     have ne0_1a: ¬(g19=w.heap.size+1):=M7.out.ne (i:=0) (j:=1) (by omega) rfl rfl rfl rfl
     have ne0_1b: ¬(w.heap.size+1=g19):=fun h=>ne0_1a h.symm
     go_wp2
     clear f0 ff0 f1 ff1 f2 ff2 d0 d1 d2 ne0_1a ne0_1b
     have M8:=xQ (show MemR R w ((wy.setCell ⟨w.heap.size+1,0,none⟩ (.int .i64 a18)).setCell ⟨w.heap.size+1,1,none⟩ (.int .i64 b1)) [aK w.heap.size (g19) THD #[.int .i64 a18,.int .i64 b1,.int .i64 y],aK w.heap.size (w.heap.size+1) THD #[.int .i64 a18,.int .i64 b1,.int .i64 0],aK w.heap.size (w.heap.size) aQ #[.int .i64 aA,.int .i64 aB,.slice p n cap,.int .i64 free,.int .i64 step,.int .i64 aD,.int .i64 aH,.int .i64 aC,.int .i64 aI,.slice q m c2]]from((((M7.out).store (i:=1) rfl 0 (.int .i64 a18))).store (i:=1) rfl 1 (.int .i64 b1)))
     have r9:Rand (((wy.setCell ⟨w.heap.size+1,0,none⟩ (.int .i64 a18)).setCell ⟨w.heap.size+1,1,none⟩ (.int .i64 b1)).setCell ⟨w.heap.size+1,2,none⟩ (.int .i64 y)) R (k+40+1+1):=xN
     clear lt7_0 lt7_1 lt7_2
     have M9:=xQ (show MemR R w (((wy.setCell ⟨w.heap.size+1,0,none⟩ (.int .i64 a18)).setCell ⟨w.heap.size+1,1,none⟩ (.int .i64 b1)).setCell ⟨w.heap.size+1,2,none⟩ (.int .i64 y)) [aK w.heap.size (g19) THD #[.int .i64 a18,.int .i64 b1,.int .i64 y],aK w.heap.size (w.heap.size+1) THD #[.int .i64 a18,.int .i64 b1,.int .i64 y],aK w.heap.size (w.heap.size) aQ #[.int .i64 aA,.int .i64 aB,.slice p n cap,.int .i64 free,.int .i64 step,.int .i64 aD,.int .i64 aH,.int .i64 aC,.int .i64 aI,.slice q m c2]]from((M8.out).store (i:=1) rfl 2 (.int .i64 y)))
     generalize hwz:World.setCell _ _ _=wz
     rw[hwz]at M9 r9
     clear hwz M7 M8
     have lt9_0:=M9.out.hi 0
     have lt9_1:=M9.out.hi 1
     have lt9_2:=M9.out.hi 2
     obtain⟨y0,y1,y2⟩:=(M9.out.blk (i:=1) rfl).tri
     exact bodyPost_ret (v:=oB (a18) (b1) (y)) (by simp[results,Tryz.results117,go_sem, *]) rfl ⟨_,_,_,rfl,r9.mono (by omega),M9.out.ext⟩
    have k1b:(a18==1)=false:=by simp[k1]
    by_cases k3:a18=3
    ·skip
     have k3b:(a18==3)=true:=by simp[k3]
     clear k3 k1
     go_wp2_with fail
     clear d0
     refine(bS R (k+40) (60) _ r4 (by omega)).mono ?_
     rintro e w5 ⟨x,rfl,xa,xb,r5,xx⟩
     have M5:=xQ ((M4.out).pickd xx)
     clear xx M4
     clear lt4_0 lt4_1 lt4_2
     have lt5_0:=M5.out.hi 0
     have lt5_1:=M5.out.hi 1
     have lt5_2:=M5.out.hi 2
     go_wp2_with fail
     refine(bS R (k+40+1) (3) _ r5 (by omega)).mono ?_
     rintro e w6 ⟨y0,rfl,y0a,y0b,r6,y0x⟩
     have M6:=xQ ((M5.out).pickd y0x)
     clear y0x M5
     clear lt5_0 lt5_1 lt5_2
     have lt6_0:=M6.out.hi 0
     have lt6_1:=M6.out.hi 1
     have lt6_2:=M6.out.hi 2
     go_wp2_with fail
     refine(bS R (k+40+1+1) (3) _ r6 (by omega)).mono ?_
     rintro e w7 ⟨z0,rfl,z0a,z0b,r7,z0x⟩
     have M7:=xQ ((M6.out).pickd z0x)
     clear z0x M6
     clear lt6_0 lt6_1 lt6_2
     have lt7_0:=M7.out.hi 0
     have lt7_1:=M7.out.hi 1
     have lt7_2:=M7.out.hi 2
     obtain⟨d0,df0,d1,df1,d2,df2⟩:=(M7.out.blk (i:=0) rfl).trif
     go_upto_region 15 with fail
     clear d0 df0 d1 df1 d2 df2
     generalize hwz:World.setCell _ _ _=wy
     obtain⟨y,hy⟩: ∃y,w7.setCell ⟨g19,1,none⟩ (.int .i64 y)=wy:=⟨_,hwz⟩
     clear hwz
     have M8:=xQ (show MemR R w (w7.setCell ⟨g19,1,none⟩ (.int .i64 y)) [aK w.heap.size (g19) THD #[.int .i64 a18,.int .i64 y,.int .i64 0],aK w.heap.size (w.heap.size+1) THD #[.int .i64 0,.int .i64 0,.int .i64 0],aK w.heap.size (w.heap.size) aQ #[.int .i64 aA,.int .i64 aB,.slice p n cap,.int .i64 free,.int .i64 step,.int .i64 aD,.int .i64 aH,.int .i64 aC,.int .i64 aI,.slice q m c2]]from((M7.out).store (i:=0) rfl 1 (.int .i64 y)))
     have r8:Rand (w7.setCell ⟨g19,1,none⟩ (.int .i64 y)) R (k+40+1+1+1):=xN
     rw[hy]at M8 r8
     clear hy M7
     clear lt7_0 lt7_1 lt7_2
     have lt8_0:=M8.out.hi 0
     have lt8_1:=M8.out.hi 1
     have lt8_2:=M8.out.hi 2
     obtain⟨f0,ff0,f1,ff1,f2,ff2⟩:=(M8.out.blk (i:=1) rfl).trif
     obtain⟨d0,d1,d2⟩:=(M8.out.blk (i:=0) rfl).tri
     have ne0_1a: ¬(g19=w.heap.size+1):=M8.out.ne (i:=0) (j:=1) (by omega) rfl rfl rfl rfl
     have ne0_1b: ¬(w.heap.size+1=g19):=fun h=>ne0_1a h.symm
     go_wp2
     clear f0 ff0 f1 ff1 f2 ff2 d0 d1 d2 ne0_1a ne0_1b
     have M9:=xQ (show MemR R w ((wy.setCell ⟨w.heap.size+1,0,none⟩ (.int .i64 a18)).setCell ⟨w.heap.size+1,1,none⟩ (.int .i64 y)) [aK w.heap.size (g19) THD #[.int .i64 a18,.int .i64 y,.int .i64 0],aK w.heap.size (w.heap.size+1) THD #[.int .i64 a18,.int .i64 y,.int .i64 0],aK w.heap.size (w.heap.size) aQ #[.int .i64 aA,.int .i64 aB,.slice p n cap,.int .i64 free,.int .i64 step,.int .i64 aD,.int .i64 aH,.int .i64 aC,.int .i64 aI,.slice q m c2]]from((((M8.out).store (i:=1) rfl 0 (.int .i64 a18))).store (i:=1) rfl 1 (.int .i64 y)))
     have r9:Rand (((wy.setCell ⟨w.heap.size+1,0,none⟩ (.int .i64 a18)).setCell ⟨w.heap.size+1,1,none⟩ (.int .i64 y)).setCell ⟨w.heap.size+1,2,none⟩ (.int .i64 0)) R (k+40+1+1+1):=xN
     clear lt8_0 lt8_1 lt8_2
     have M10:=xQ (show MemR R w (((wy.setCell ⟨w.heap.size+1,0,none⟩ (.int .i64 a18)).setCell ⟨w.heap.size+1,1,none⟩ (.int .i64 y)).setCell ⟨w.heap.size+1,2,none⟩ (.int .i64 0)) [aK w.heap.size (g19) THD #[.int .i64 a18,.int .i64 y,.int .i64 0],aK w.heap.size (w.heap.size+1) THD #[.int .i64 a18,.int .i64 y,.int .i64 0],aK w.heap.size (w.heap.size) aQ #[.int .i64 aA,.int .i64 aB,.slice p n cap,.int .i64 free,.int .i64 step,.int .i64 aD,.int .i64 aH,.int .i64 aC,.int .i64 aI,.slice q m c2]]from((M9.out).store (i:=1) rfl 2 (.int .i64 0)))
     generalize hwz:World.setCell _ _ _=wz
     rw[hwz]at M10 r9
     clear hwz M8 M9
     have lt10_0:=M10.out.hi 0
     have lt10_1:=M10.out.hi 1
     have lt10_2:=M10.out.hi 2
     obtain⟨y0,y1,y2⟩:=(M10.out.blk (i:=1) rfl).tri
     exact bodyPost_ret (v:=oB (a18) (y) (0)) (by simp[results,Tryz.results117,go_sem, *]) rfl ⟨_,_,_,rfl,r9.mono (by omega),M10.out.ext⟩
    have k3b:(a18==3)=false:=by simp[k3]
    by_cases k4:a18=4
    ·skip
     have k4b:(a18==4)=true:=by simp[k4]
     clear k4 k3 k1
     have ce0:wc.cell? ⟨w.heap.size,0,none⟩=some (.int .i64 aA):=(M4.out.blk (i:=2) rfl).cell 0
     have ce1:wc.cell? ⟨w.heap.size,1,none⟩=some (.int .i64 aB):=(M4.out.blk (i:=2) rfl).cell 1
     have ce2:wc.cell? ⟨w.heap.size,2,none⟩=some (.slice p n cap):=(M4.out.blk (i:=2) rfl).cell 2
     go_wp2_with fail
     clear d0 ce0 ce1 ce2
     refine(HSA.out _ M4.out.ext).mono ?_
     rintro e w5 ⟨q5,c5,rfl,ho,hx⟩
     have r5:Rand w5 R (k+40):=r4.ext hx
     have M5:=xQ ((M4.out).call hx ho)
     clear M4
     clear lt4_0 lt4_1 lt4_2
     have lt5_1:=M5.out.hi 1
     have lt5_2:=M5.out.hi 2
     have lt5_3:=M5.out.hi 3
     clear hx ho r4
     by_cases l0:KS=0
     ·skip
      have dk0:decide ((0:Int)<(KS:Int))=false:=by simp;omega
      have dk1:decide (0<KS)=false:=by simp;omega
      clear l0
      obtain⟨f0,ff0,f1,ff1,f2,ff2⟩:=(M5.out.blk (i:=2) rfl).trif
      obtain⟨d0,d1,d2⟩:=(M5.out.blk (i:=1) rfl).tri
      have ne0_1a: ¬(g19=w.heap.size+1):=M5.out.ne (i:=1) (j:=2) (by omega) rfl rfl rfl rfl
      have ne0_1b: ¬(w.heap.size+1=g19):=fun h=>ne0_1a h.symm
      go_wp2
      clear f0 ff0 f1 ff1 f2 ff2 d0 d1 d2 ne0_1a ne0_1b
      have M6:=xQ (show MemR R w ((w5.setCell ⟨w.heap.size+1,0,none⟩ (.int .i64 a18)).setCell ⟨w.heap.size+1,1,none⟩ (.int .i64 b1)) [aP w.heap.size TSL 2 (q5) (KS) (c5) (sl.flatMap aN),aK w.heap.size (g19) THD #[.int .i64 a18,.int .i64 b1,.int .i64 0],aK w.heap.size (w.heap.size+1) THD #[.int .i64 a18,.int .i64 b1,.int .i64 0],aK w.heap.size (w.heap.size) aQ #[.int .i64 aA,.int .i64 aB,.slice p n cap,.int .i64 free,.int .i64 step,.int .i64 aD,.int .i64 aH,.int .i64 aC,.int .i64 aI,.slice q m c2]]from((((M5.out).store (i:=2) rfl 0 (.int .i64 a18))).store (i:=2) rfl 1 (.int .i64 b1)))
      have r9:Rand (((w5.setCell ⟨w.heap.size+1,0,none⟩ (.int .i64 a18)).setCell ⟨w.heap.size+1,1,none⟩ (.int .i64 b1)).setCell ⟨w.heap.size+1,2,none⟩ (.int .i64 0)) R (k+40):=xN
      clear lt5_1 lt5_2 lt5_3
      have M7:=xQ (show MemR R w (((w5.setCell ⟨w.heap.size+1,0,none⟩ (.int .i64 a18)).setCell ⟨w.heap.size+1,1,none⟩ (.int .i64 b1)).setCell ⟨w.heap.size+1,2,none⟩ (.int .i64 0)) [aP w.heap.size TSL 2 (q5) (KS) (c5) (sl.flatMap aN),aK w.heap.size (g19) THD #[.int .i64 a18,.int .i64 b1,.int .i64 0],aK w.heap.size (w.heap.size+1) THD #[.int .i64 a18,.int .i64 b1,.int .i64 0],aK w.heap.size (w.heap.size) aQ #[.int .i64 aA,.int .i64 aB,.slice p n cap,.int .i64 free,.int .i64 step,.int .i64 aD,.int .i64 aH,.int .i64 aC,.int .i64 aI,.slice q m c2]]from((M6.out).store (i:=2) rfl 2 (.int .i64 0)))
      generalize hwz:World.setCell _ _ _=wz
      rw[hwz]at M7 r9
      clear hwz M5 M6
      have lt7_1:=M7.out.hi 1
      have lt7_2:=M7.out.hi 2
      have lt7_3:=M7.out.hi 3
      obtain⟨y0,y1,y2⟩:=(M7.out.blk (i:=2) rfl).tri
      exact bodyPost_ret (v:=oB (a18) (b1) (0)) (by simp[results,Tryz.results117,go_sem, *]) rfl ⟨_,_,_,rfl,r9.mono (by omega),M7.out.ext⟩
     ·skip
      have dk0:decide ((0:Int)<(KS:Int))=true:=by simp;omega
      have dk1:decide (0<KS)=true:=by simp;omega
      go_wp2_with fail
      refine(bS R (k+40) ((KS:Int)) _ r5 (by omega)).mono ?_
      rintro e w6 ⟨x,rfl,xa,xb,r6,xx⟩
      have M6:=xQ ((M5.out).pickd xx)
      clear xx M5
      clear lt5_1 lt5_2 lt5_3
      have lt6_1:=M6.out.hi 1
      have lt6_2:=M6.out.hi 2
      have lt6_3:=M6.out.hi 3
      obtain⟨g5,rfl,hg5a,hg5⟩:=M6.out.some (i:=0) rfl (by omega)
      obtain⟨xn,rfl⟩:=Int.eq_ofNat_of_zero_le xa
      have i1:(xn:Int)<(KS:Int):=by omega
      obtain⟨⟨sf,st⟩,hsx⟩: ∃z,sl[xn]? =some z:=⟨_,List.getElem?_eq_getElem (by rw[hKS.out];omega)⟩
      have cs0:w6.cell? ⟨g5,xn*2,none⟩=some (.int .i64 sf):=by
       have h1:=jR aN 2 (fun _=>rfl) sl xn _ hsx 0 (by omega)
       rw[((M6.out.own (i:=0) rfl)).cellAt (xn*2) (by omega)];simpa[aN]using h1
      have cs1:w6.cell? ⟨g5,xn*2+1,none⟩=some (.int .i64 st):=by
       have h1:=jR aN 2 (fun _=>rfl) sl xn _ hsx 1 (by omega)
       rw[((M6.out.own (i:=0) rfl)).cellAt (xn*2+1) (by omega)];simpa[aN]using h1
      clear hsx l0 dk0 dk1
      go_upto_region 13 with fail
      clear cs0 cs1
      have r7:Rand (w6.alloc (.cells #[.int .i64 sf,.int .i64 st] TSL)) R (k+40+1):=xN
      have M7:=xQ (((M6.out).blkNew TSL #[.int .i64 sf,.int .i64 st] (w6.heap.size) (by simp)))
      generalize hwz:(w6.alloc (.cells #[.int .i64 sf,.int .i64 st] TSL))=w7
      rw[hwz]at M7 r7
      clear hwz r6 M6
      clear lt6_1 lt6_2 lt6_3
      have lt7_0:=M7.out.hi 0
      have lt7_2:=M7.out.hi 2
      have lt7_3:=M7.out.hi 3
      have lt7_4:=M7.out.hi 4
      obtain⟨d0,df0,d1,df1,d2,df2⟩:=(M7.out.blk (i:=2) rfl).trif
      have e0:w7.cell? ⟨w6.heap.size,0,none⟩=some (.int .i64 sf):=(M7.out.blk (i:=0) rfl).cell 0
      have e1:w7.cell? ⟨w6.heap.size,1,none⟩=some (.int .i64 st):=(M7.out.blk (i:=0) rfl).cell 1
      have ne0_1a: ¬(w6.heap.size=g19):=M7.out.ne (i:=0) (j:=2) (by omega) rfl rfl rfl rfl
      have ne0_1b: ¬(g19=w6.heap.size):=fun h=>ne0_1a h.symm
      go_upto_region 15 with fail
      clear d0 df0 d1 df1 d2 df2 e0 e1 ne0_1a ne0_1b
      have r8:Rand ((w7.setCell ⟨g19,1,none⟩ (.int .i64 sf)).setCell ⟨g19,2,none⟩ (.int .i64 st)) R (k+40+1):=xN
      have M8:=xQ (show MemR R w ((w7.setCell ⟨g19,1,none⟩ (.int .i64 sf)).setCell ⟨g19,2,none⟩ (.int .i64 st)) [aK w.heap.size (w6.heap.size) TSL #[.int .i64 sf,.int .i64 st],aP w.heap.size TSL 2 (some ⟨g5,0,none⟩) (KS) (c5) (sl.flatMap aN),aK w.heap.size (g19) THD #[.int .i64 a18,.int .i64 sf,.int .i64 st],aK w.heap.size (w.heap.size+1) THD #[.int .i64 0,.int .i64 0,.int .i64 0],aK w.heap.size (w.heap.size) aQ #[.int .i64 aA,.int .i64 aB,.slice p n cap,.int .i64 free,.int .i64 step,.int .i64 aD,.int .i64 aH,.int .i64 aC,.int .i64 aI,.slice q m c2]]from((((M7.out).store (i:=2) rfl 1 (.int .i64 sf))).store (i:=2) rfl 2 (.int .i64 st)))
      generalize hwz:World.setCell _ _ _=w8
      rw[hwz]at M8 r8
      clear hwz r7 M7
      clear lt7_0 lt7_2 lt7_3 lt7_4
      have lt8_0:=M8.out.hi 0
      have lt8_2:=M8.out.hi 2
      have lt8_3:=M8.out.hi 3
      have lt8_4:=M8.out.hi 4
      obtain⟨f0,ff0,f1,ff1,f2,ff2⟩:=(M8.out.blk (i:=3) rfl).trif
      obtain⟨d0,d1,d2⟩:=(M8.out.blk (i:=2) rfl).tri
      have ne0_1a: ¬(g19=w.heap.size+1):=M8.out.ne (i:=2) (j:=3) (by omega) rfl rfl rfl rfl
      have ne0_1b: ¬(w.heap.size+1=g19):=fun h=>ne0_1a h.symm
      go_wp2
      clear f0 ff0 f1 ff1 f2 ff2 d0 d1 d2 ne0_1a ne0_1b
      have M9:=xQ (show MemR R w ((w8.setCell ⟨w.heap.size+1,0,none⟩ (.int .i64 a18)).setCell ⟨w.heap.size+1,1,none⟩ (.int .i64 sf)) [aK w.heap.size (w6.heap.size) TSL #[.int .i64 sf,.int .i64 st],aP w.heap.size TSL 2 (some ⟨g5,0,none⟩) (KS) (c5) (sl.flatMap aN),aK w.heap.size (g19) THD #[.int .i64 a18,.int .i64 sf,.int .i64 st],aK w.heap.size (w.heap.size+1) THD #[.int .i64 a18,.int .i64 sf,.int .i64 0],aK w.heap.size (w.heap.size) aQ #[.int .i64 aA,.int .i64 aB,.slice p n cap,.int .i64 free,.int .i64 step,.int .i64 aD,.int .i64 aH,.int .i64 aC,.int .i64 aI,.slice q m c2]]from((((M8.out).store (i:=3) rfl 0 (.int .i64 a18))).store (i:=3) rfl 1 (.int .i64 sf)))
      have r9:Rand (((w8.setCell ⟨w.heap.size+1,0,none⟩ (.int .i64 a18)).setCell ⟨w.heap.size+1,1,none⟩ (.int .i64 sf)).setCell ⟨w.heap.size+1,2,none⟩ (.int .i64 st)) R (k+40+1):=xN
      clear lt8_0 lt8_2 lt8_3 lt8_4
      have M10:=xQ (show MemR R w (((w8.setCell ⟨w.heap.size+1,0,none⟩ (.int .i64 a18)).setCell ⟨w.heap.size+1,1,none⟩ (.int .i64 sf)).setCell ⟨w.heap.size+1,2,none⟩ (.int .i64 st)) [aK w.heap.size (w6.heap.size) TSL #[.int .i64 sf,.int .i64 st],aP w.heap.size TSL 2 (some ⟨g5,0,none⟩) (KS) (c5) (sl.flatMap aN),aK w.heap.size (g19) THD #[.int .i64 a18,.int .i64 sf,.int .i64 st],aK w.heap.size (w.heap.size+1) THD #[.int .i64 a18,.int .i64 sf,.int .i64 st],aK w.heap.size (w.heap.size) aQ #[.int .i64 aA,.int .i64 aB,.slice p n cap,.int .i64 free,.int .i64 step,.int .i64 aD,.int .i64 aH,.int .i64 aC,.int .i64 aI,.slice q m c2]]from((M9.out).store (i:=3) rfl 2 (.int .i64 st)))
      generalize hwz:World.setCell _ _ _=wz
      rw[hwz]at M10 r9
      clear hwz M8 M9
      have lt10_0:=M10.out.hi 0
      have lt10_2:=M10.out.hi 2
      have lt10_3:=M10.out.hi 3
      have lt10_4:=M10.out.hi 4
      obtain⟨y0,y1,y2⟩:=(M10.out.blk (i:=3) rfl).tri
      exact bodyPost_ret (v:=oB (a18) (sf) (st)) (by simp[results,Tryz.results117,go_sem, *]) rfl ⟨_,_,_,rfl,r9.mono (by omega),M10.out.ext⟩
    have k4b:(a18==4)=false:=by simp[k4]
    clear k4 k3 k1
    clear d0
    obtain⟨f0,ff0,f1,ff1,f2,ff2⟩:=(M4.out.blk (i:=1) rfl).trif
    obtain⟨d0,d1,d2⟩:=(M4.out.blk (i:=0) rfl).tri
    have ne0_1a: ¬(g19=w.heap.size+1):=M4.out.ne (i:=0) (j:=1) (by omega) rfl rfl rfl rfl
    have ne0_1b: ¬(w.heap.size+1=g19):=fun h=>ne0_1a h.symm
    go_wp2
    clear f0 ff0 f1 ff1 f2 ff2 d0 d1 d2 ne0_1a ne0_1b
    have M5:=xQ (show MemR R w ((wc.setCell ⟨w.heap.size+1,0,none⟩ (.int .i64 a18)).setCell ⟨w.heap.size+1,1,none⟩ (.int .i64 b1)) [aK w.heap.size (g19) THD #[.int .i64 a18,.int .i64 b1,.int .i64 0],aK w.heap.size (w.heap.size+1) THD #[.int .i64 a18,.int .i64 b1,.int .i64 0],aK w.heap.size (w.heap.size) aQ #[.int .i64 aA,.int .i64 aB,.slice p n cap,.int .i64 free,.int .i64 step,.int .i64 aD,.int .i64 aH,.int .i64 aC,.int .i64 aI,.slice q m c2]]from((((M4.out).store (i:=1) rfl 0 (.int .i64 a18))).store (i:=1) rfl 1 (.int .i64 b1)))
    have r9:Rand (((wc.setCell ⟨w.heap.size+1,0,none⟩ (.int .i64 a18)).setCell ⟨w.heap.size+1,1,none⟩ (.int .i64 b1)).setCell ⟨w.heap.size+1,2,none⟩ (.int .i64 0)) R (k+40):=xN
    clear lt4_0 lt4_1 lt4_2
    have M6:=xQ (show MemR R w (((wc.setCell ⟨w.heap.size+1,0,none⟩ (.int .i64 a18)).setCell ⟨w.heap.size+1,1,none⟩ (.int .i64 b1)).setCell ⟨w.heap.size+1,2,none⟩ (.int .i64 0)) [aK w.heap.size (g19) THD #[.int .i64 a18,.int .i64 b1,.int .i64 0],aK w.heap.size (w.heap.size+1) THD #[.int .i64 a18,.int .i64 b1,.int .i64 0],aK w.heap.size (w.heap.size) aQ #[.int .i64 aA,.int .i64 aB,.slice p n cap,.int .i64 free,.int .i64 step,.int .i64 aD,.int .i64 aH,.int .i64 aC,.int .i64 aI,.slice q m c2]]from((M5.out).store (i:=1) rfl 2 (.int .i64 0)))
    generalize hwz:World.setCell _ _ _=wz
    rw[hwz]at M6 r9
    clear hwz M4 M5
    have lt6_0:=M6.out.hi 0
    have lt6_1:=M6.out.hi 1
    have lt6_2:=M6.out.hi 2
    obtain⟨y0,y1,y2⟩:=(M6.out.blk (i:=1) rfl).tri
    exact bodyPost_ret (v:=oB (a18) (b1) (0)) (by simp[results,Tryz.results117,go_sem, *]) rfl ⟨_,_,_,rfl,r9.mono (by omega),M6.out.ext⟩
set_option maxRecDepth 100000 in
set_option maxHeartbeats 1000000 in
theorem aHb (aA aB:Int)(p:Option Addr)(n cap:Nat)(m:Nat→Nat→Bool)(w:World)(hn:n≤1000)
  (HM:Hid (∀(f t:Nat),f<n→t<n→ ∀w',Ext w w'→Calls Tryz.prog 189 #[aJ aA aB p n cap,iR (f:Int) (t:Int)] w' fun e w''=>e= .returned (.bool (m f t))∧Ext w' w'')):
  Calls Tryz.prog 152 #[aJ aA aB p n cap] w (jK (dO m n n) w):=by
 go_enter Tryz.func152,Tryz.ntmps152
 go_wp2
 go_loopw [3,4] (fun v i wr=> ∃(k:Nat) (q:Option Addr) (l c:Nat),k≤n∧i= .int .i64 k∧v= .slice q l c∧l≤k*n∧wr.ownsRow (w.heap.size+1) TSL 2 (.slice q l c) l ((dO m n k).flatMap aN)∧Ext w wr∧Blk wr w.heap.size TH3 #[.int .i64 aA,.int .i64 aB,.slice p n cap]) (fun _ i _=>n-(intOf i).toNat)
 case atStart=>
  have ho:((w.alloc (.cells #[.int .i64 aA,.int .i64 aB,.slice p n cap] TH3)).alloc (.cells #[] TSL)).ownsRow (w.heap.size+1) TSL 2 (.slice (some ⟨(w.alloc (.cells #[.int .i64 aA,.int .i64 aB,.slice p n cap] TH3)).heap.size,0,none⟩) 0 0) 0 []:=World.ownsRow_made _ #[] 0 (by simp) (by simp[maxLen]) rfl
  exact⟨0,_,0,0,Nat.zero_le _,rfl,rfl,by simp,by simpa[dO]using ho,by exact .alloc (.alloc (.refl _) _) _,(Blk.new w _ _).alloc _⟩
 case round=>
  obtain⟨k,q,l,c,hk,rfl,rfl,hlk,hown,hEw,hB⟩:=hrel
  have HO:=xQ hown
  have HB:=xQ hB
  have hsz:w.heap.size<wr.heap.size:=hB.lt
  have hln:Hid (l=(dO m n k).length):=by have:=hown.1;rw[fD aN 2 (fun _=>rfl)]at this;show _=_;omega
  clear hown hB
  obtain⟨b0,b1,b2⟩:=HB.out.cells3
  by_cases hlt:k<n
  ·have hkn:k*n≤1000000:=by have:=Nat.mul_le_mul (show k≤1000 by omega) hn;omega
   go_wp2
   obtain⟨wo,rfl⟩: ∃wo:World,wo=wr:=⟨_,rfl⟩
   clear b0 b1 b2
   go_loopw [3,5] (fun v i wr=> ∃(j:Nat) (q:Option Addr) (l c:Nat),j≤n∧i= .int .i64 j∧v= .slice q l c∧l≤k*n+j∧wr.ownsRow (w.heap.size+1) TSL 2 (.slice q l c) l ((dO m n k++jO (m k) k j).flatMap aN)∧Ext w wr∧Blk wr w.heap.size TH3 #[.int .i64 aA,.int .i64 aB,.slice p n cap]) (fun _ i _=>n-(intOf i).toNat)
   case atStart=>exact⟨0,q,l,c,Nat.zero_le _,rfl,rfl,by omega,by simpa[jO]using HO.out,hEw,HB.out⟩
   case round=>
    clear HO HB hsz hEw hln hlk
    obtain⟨j,q,l,c,hj,rfl,rfl,hlk,hown,hEw,hB⟩:=hrel
    have HO:=xQ hown
    have HB:=xQ hB
    have hsz:w.heap.size<wr.heap.size:=hB.lt
    clear hown hB
    obtain⟨b0,b1,b2⟩:=HB.out.cells3
    by_cases hlt2:j<n
    ·go_wp2_with fail
     refine(HM.out k j hlt hlt2 _ hEw).mono ?_
     rintro e w1 ⟨rfl,h1⟩
     have HO1:=xQ (aO HO.out h1)
     have HB1:=xQ (HB.out.ext h1)
     have hEw1:=xQ (hEw.trans h1)
     have hsz1:w.heap.size<w1.heap.size:=HB1.out.lt
     clear h1 b0 b1 b2 HO HB hEw
     cases hm:m k j with
     |true=>
      have hfin:Hid (dO m n k++jO (m k) k (j+1)=(dO m n k++jO (m k) k j)++ [((k:Int),(j:Int))]):=by
       show _=_;rw[jO,if_pos hm,List.append_assoc]
      clear hm
      go_wp2_with (at_builtin;refine gI uG (f:=aN) (fun _=>rfl) (fun _ u hu=>by simp[aN]at hu;rcases hu with rfl|rfl<;>rfl) rfl _ _ rfl (w.heap.size+1) _ _ _ rfl (HO1.out.alloc _) _ _ ((k:Int),(j:Int)) _ rfl (wN _ _ _ _) (by omega) (by first|(simp;done)|(simp;omega)) ?_;intro p' cap' w2 hown1 hg1;have HO2:=xQ hown1;have hE1:Ext w w2:=Ext.own (hEw1.out.alloc _) (HO1.out.alloc _) hg1 (by omega);have HB2:=xQ (rE HO1.out hg1 HB1.out);clear hown1 hg1)
      go_roundw
      case rel=>exact⟨j+1,p',l+1,cap',by omega,by go_num,rfl,by omega,by rw[hfin.out];exact HO2.out,hE1,HB2.out⟩
      case measure=>simp[intOf];omega
     |false=>
      have hfin:Hid (dO m n k++jO (m k) k (j+1)=dO m n k++jO (m k) k j):=by
       show _=_;rw[jO,if_neg (by rw[hm];simp),List.append_nil]
      clear hm
      go_wp2
      go_roundw
      case rel=>exact⟨j+1,q,l,c,by omega,by go_num,rfl,by omega,by rw[hfin.out];exact HO1.out,hEw1.out,HB1.out⟩
      case measure=>simp[intOf];omega
    ·have hfin:Hid (dO m n k++jO (m k) k j=dO m n (k+1)):=by
      show _=_;rw[dO,show j=n by omega]
     have hk1:k*n+n=(k+1)*n:=(Nat.succ_mul k n).symm
     go_wp2
     go_roundw
     case rel=>exact⟨k+1,q,l,c,by omega,by go_num,rfl,by rw[←hk1];omega,by rw[←hfin.out];exact HO.out,hEw,HB.out⟩
     case measure=>simp[intOf];omega
  ·have hfin:Hid (dO m n k=dO m n n):=by
    show _=_;rw[show k=n by omega]
   go_wp2
   go_ret
   have hl2:(dO m n n).length=l:=by rw[←hfin.out];exact hln.out.symm
   subst hl2
   exact⟨q,c,rfl,by rw[hfin.out]at HO;exact aZ HO.out (Nat.le_succ _),hEw⟩
theorem aBu (aA aB:Int)(p:Option Addr)(n cap:Nat)(xs:List Int)(w:World)(hS:Sl w p n cap 1 (ivs xs))(hn:n≤1000):
  Calls Tryz.prog 152 #[aJ aA aB p n cap] w (jK (gK aA aB xs) w):=by
 have hl:=hS.ilen
 subst hl
 exact aHb aA aB p xs.length cap _ w hn (fun f t _ _ w' hx=>aDd aA aB f t p xs.length cap xs w' (hS.ext hx))
theorem xC (aA aB:Int)(xs:List Int):(gK aA aB xs).length≤xs.length*xs.length:=yJ _ _ _
end Go.Proofs.YteejdnmmpmcmeaaGreatDoor
